import Derived.Test.YtcnckjlmldnblaaGreatDoorChecked
import Derived.WalkKit
import Derived.WalkSpells
import Derived.BigQuiet
import Derived.Deep.QuietTactic
import Derived.Lib.Hide
import Derived.Deep.RegionHeld3
import Derived.Deep.DeepCutAuto
import Derived.Deep.CutBlock
import Derived.Laws.Rows
namespace Go.Proofs.YtcnckjlmldnblaaGreatDoor
open Go Go.RowKit
set_option maxRecDepth 100000
set_option maxHeartbeats 1000000
set_option linter.unusedVariables false
theorem ret_bool {a b:Bool} (h:a=b):Ending.returned (Value.bool a)=Ending.returned (Value.bool b):=by rw [h]
theorem ret_intk {k:IntKind} {a b:Int} (h:a=b):Ending.returned (Value.int k a)=Ending.returned (Value.int k b):=by rw [h]
theorem below_drewN {B:Nat} {a w:World} (h:Below B a w) (n:Nat):Below B a (w.drewN n):=h.trans ⟨rfl,rfl,rfl,Nat.le_refl _,fun _ _=>rfl⟩
def letterB (c:UInt8):Bool:=decide (97≤(c.toNat:Int)) && decide ((c.toNat:Int)≤122)
def digitB (c:UInt8):Bool:=decide (48≤(c.toNat:Int)) && decide ((c.toNat:Int)≤57)
def wordB (c:UInt8):Bool:=letterB c || digitB c || ((c.toNat:Int) == 95)
theorem letter_any (w:World) (c:UInt8):Calls Tryz.prog 90 #[.int .u8 (c.toNat:Int)] w fun e w'=>e=.returned (.bool (letterB c))∧w=w':=by
 go_enter Tryz.func90,Tryz.ntmps90
 go_wp2
 all_goals go_ret
 all_goals exact ⟨ret_bool (by simp_all [letterB] <;> try omega),rfl⟩
theorem digit_any (w:World) (c:UInt8):Calls Tryz.prog 110 #[.int .u8 (c.toNat:Int)] w fun e w'=>e=.returned (.bool (digitB c))∧w=w':=by
 go_enter Tryz.func110,Tryz.ntmps110
 go_wp2
 all_goals go_ret
 all_goals exact ⟨ret_bool (by simp_all [digitB] <;> try omega),rfl⟩
theorem ofword_any (w:World) (c:UInt8):Calls Tryz.prog 91 #[.int .u8 (c.toNat:Int)] w fun e w'=>e=.returned (.bool (wordB c))∧w=w':=by
 go_enter Tryz.func91,Tryz.ntmps91
 go_wp2_with (first | (go_at_call 90;refine (letter_any _ _).mono ?_;rintro e w' ⟨rfl,rfl⟩) | (go_at_call 110;refine (digit_any _ _).mono ?_;rintro e w' ⟨rfl,rfl⟩))
 all_goals go_ret
 all_goals exact ⟨ret_bool (by simp_all [wordB]),rfl⟩
/-- May a name begin with this run? -/
def nameB (l:List UInt8):Bool:=decide (0 < l.length) && decide (l.length≤64) && letterB (l.getD 0 0) && l.all wordB
theorem take_snoc (s:ByteArray) (k:Nat) (h:k < s.size):s.data.toList.take (k+1)=s.data.toList.take k++[s[k]]:=by
 rw [List.take_succ_eq_append_getElem (by simpa using h)];rfl
theorem get_first (s:ByteArray) (h:0 < s.size):s.data.toList.getD 0 0=s[0]:=by
 have:0 < s.data.toList.length:=by simpa using h
 have e:s.data.toList[0]?=some s.data.toList[0]:=List.getElem?_eq_getElem this
 rw [List.getD_eq_getElem?_getD,e];rfl
theorem lenS (s:ByteArray):s.data.toList.length=s.size:=by simp
theorem all_false (s:ByteArray) (k:Nat) (h:k < s.size) (hw:wordB s[k]=false):s.data.toList.all wordB=false:=by
 have:s.data.toList=s.data.toList.take k++[s[k]]++s.data.toList.drop (k+1):=by rw [← take_snoc s k h,List.take_append_drop]
 rw [this];simp [hw]
theorem starts_any (w:World) (s:ByteArray) (hs:s.size≤maxLen):Calls Tryz.prog 77 #[.string s] w fun e w'=>e=.returned (.bool (nameB s.data.toList))∧w=w':=by
 unfold maxLen at hs
 by_cases h0:s.size=0
 · go_enter Tryz.func77,Tryz.ntmps77
   go_wp2
   go_ret
   exact ⟨ret_bool (by simp [nameB,h0]),rfl⟩
 by_cases h1:64 < s.size
 · have h1':(64:Int) < (s.size:Int):=by omega
   go_enter Tryz.func77,Tryz.ntmps77
   go_wp2
   go_ret
   exact ⟨ret_bool (by rw [nameB,lenS,decide_eq_false (show ¬ s.size≤64 by omega)];simp),rfl⟩
 have h0':0 < s.size:=by omega
 have hc0:((s.size:Int) == 0)=false:=by simpa using h0
 have hg:=get_first s h0'
 by_cases h2:letterB s[0]=true
 · have h1':¬ (64:Int) < (s.size:Int):=by omega
   have HG:=Lib.hid hg
   have H2:=Lib.hid h2
   clear hg
   go_enter Tryz.func77,Tryz.ntmps77
   go_wp2_with (first | (go_at_call 90;refine (letter_any _ _).mono ?_;rintro e w' ⟨rfl,rfl⟩))
   go_loop [20] (fun i=>∃ k:Nat,k≤s.size∧i=.int .i64 k∧(s.data.toList.take k).all wordB=true) (fun i=>s.size - (intOf i).toNat)
   case atStart=>exact ⟨0,Nat.zero_le _,rfl,rfl⟩
   case round =>
    obtain ⟨k,hk,rfl,ha⟩:=hrel
    have HA:=Lib.hid ha
    clear ha h2
    by_cases hlt:k < s.size
    · have hts:=Lib.hid (take_snoc s k hlt)
      by_cases hw:wordB s[k]=true
      · go_wp2_with (first | (go_at_call 91;refine (ofword_any _ _).mono ?_;rintro e w' ⟨rfl,rfl⟩))
        go_round
        case rel=>exact ⟨k+1,by omega,by go_num,by rw [hts.out,List.all_append,HA.out];simp [hw]⟩
        case measure=>simp [intOf];omega
      · have hw':wordB s[k]=false:=by simpa using hw
        have HW:=Lib.hid (all_false s k hlt hw')
        clear hw
        go_wp2_with (first | (go_at_call 91;refine (ofword_any _ _).mono ?_;rintro e w' ⟨rfl,rfl⟩))
        go_ret
        exact ⟨ret_bool (by simp only [nameB,HW.out,Bool.and_false]),rfl⟩
    · go_wp2
      go_ret
      exact ⟨ret_bool (by
       have hA:=HA.out
       rw [List.take_of_length_le (by simp;omega)] at hA
       rw [nameB,hA,HG.out,H2.out];simp;omega),rfl⟩
 · have h2':letterB s[0]=false:=by simpa using h2
   have h1':¬ (64:Int) < (s.size:Int):=by omega
   have HG:=Lib.hid hg
   clear h2 hg
   go_enter Tryz.func77,Tryz.ntmps77
   go_wp2_with (first | (go_at_call 90;refine (letter_any _ _).mono ?_;rintro e w' ⟨rfl,rfl⟩))
   go_ret
   exact ⟨ret_bool (by rw [nameB,HG.out,h2'];simp),rfl⟩
/-- The reserved words. -/
def resL:List (List UInt8):=[[116,121,112,101],[97,116,116,114,105,98,117,116,101],[115,116,97,103,101],[109,105,108,101,115,116,111,110,101],[115,116,101,112],[105,110],[111,112,101,110,115],[99,108,111,115,101,115],[114,101,97,99,104,101,100],[119,104,101,110],[114,101,111,112,101,110],[105,110,116],[98,111,111,108],[116,101,120,116],[116,105,109,101],[115,101,116],[111,112,116,105,111,110,97,108],[105,102],[116,104,101,110],[101,108,115,101],[111,114],[97,110,100],[110,111,116],[116,114,117,101],[102,97,108,115,101],[110,111,116,104,105,110,103],[104,97,115],[115,105,122,101],[106,111,105,110],[111,112,101,110],[99,108,111,99,107],[115,116,101,112,115],[109,105,110],[109,97,120],[100,101,102,97,117,108,116]]
def resS (k:Nat):ByteArray:=⟨(resL.getD k []).toArray⟩
def resV:Array Value:=((List.range 35).map fun k=>Value.string (resS k)).toArray
def ResTab (w:World) (g:Nat):Prop:=∀ j,j < 35→w.cell? ⟨g,j,none⟩=some (.string (resS j))
theorem u122:Tryz.prog.underlying 137=some (.array 35 9):=by kernel_rfl
theorem idx122 (k:Nat) (hk:k < 35) (wx:World):(Instr.index 137 (.agg resV) (.int .i64 (k:Int))).run Tryz.prog wx=.ok (.string (resS k)) wx:=by
 have h:k=0∨k=1∨k=2∨k=3∨k=4∨k=5∨k=6∨k=7∨k=8∨k=9∨k=10∨k=11∨k=12∨k=13∨k=14∨k=15∨k=16∨k=17∨k=18∨k=19∨k=20∨k=21∨k=22∨k=23∨k=24∨k=25∨k=26∨k=27∨k=28∨k=29∨k=30∨k=31∨k=32∨k=33∨k=34:=by omega
 rcases h with rfl | rfl | rfl | rfl | rfl | rfl | rfl | rfl | rfl | rfl | rfl | rfl | rfl | rfl | rfl | rfl | rfl | rfl | rfl | rfl | rfl | rfl | rfl | rfl | rfl | rfl | rfl | rfl | rfl | rfl | rfl | rfl | rfl | rfl | rfl <;> (show _=_;kernel_rfl)
theorem load133 (w:World) (g:Nat) (h:ResTab w g):(loadVar 137 ⟨g,0,none⟩).run Tryz.prog w=.ok (.agg resV) w:=by
 have hl:(loadCells ⟨g,0,none⟩ resV.toList.length).run Tryz.prog w=.ok resV.toList.toArray w :=
  run_loadCells_list (P:=Tryz.prog) w ⟨g,0,none⟩ resV.toList (fun j v hv=>by
   have hj:j < 35:=by
    have:=(List.getElem?_eq_some_iff.1 hv).1
    simpa [resV] using this
   rw [Addr.add_lit,Nat.zero_add,h j hj]
   rw [← hv]
   simp [resV,hj])
 have hagg:(isAgg 137).run Tryz.prog w=.ok true w:=by
  unfold isAgg
  rw [Sem.run_bind,run_underlying u122 w];rfl
 have hlen:resV.toList.length=35:=by simp [resV]
 rw [hlen] at hl
 simp [loadVar,Sem.run_bind,hagg,hl]
theorem wpList_load122 {ops:Array Oper} {rest:List Oper} {o:Oper} {a:Act} {w:World} {Q:Exit→Act→World→Prop} (hgd:o.guard=none) (x:Operand) (ho:o.op=.load 137 x)
 (g:Nat) (hx:a.eval x=.pointer (some ⟨g,0,none⟩)) (hg:ResTab w g) (h:wpList Tryz.prog ops Q rest (a.put o.dst (.agg resV)) w):wpList Tryz.prog ops Q (o :: rest) a w :=
 wpList_plain hgd fun _ hK=>by
  unfold Oper.wp execOp
  simp only [ho,hx,Instr.loadAt,Instr.sureAddr,Sem.run_bind,Sem.run_pure,Result.andThen_ok,load133 w g hg]
  exact hK _ _ h
def isResB (l:List UInt8):Bool:=resL.any (· == l)
theorem isRes_take {l:List UInt8} (k:Nat) (hk:k < 35) (h:(resL.take k).any (· == l)=false) (hn:((resS k).toList == l)=false):(resL.take (k+1)).any (· == l)=false:=by
 have hlen:resL.length=35:=rfl
 rw [List.take_succ_eq_append_getElem (by omega),List.any_append,h]
 rw [ByteArray.toList_eq] at hn
 simp only [resS,List.getD_eq_getElem?_getD,List.getElem?_eq_getElem (show k < resL.length by omega),Option.getD_some] at hn
 simp at hn ⊢
 exact hn
theorem isRes_yes {l:List UInt8} (k:Nat) (hk:k < 35) (hn:((resS k).toList == l)=true):isResB l=true:=by
 have hlen:resL.length=35:=rfl
 rw [ByteArray.toList_eq] at hn
 simp only [resS,List.getD_eq_getElem?_getD,List.getElem?_eq_getElem (show k < resL.length by omega),Option.getD_some] at hn
 simp only [isResB,List.any_eq_true]
 exact ⟨_,List.getElem_mem _,by simpa using hn⟩
/-- What word answers. -/
def WordOut (e:Ending) (l:List UInt8):Prop:=∃ v:Int,e=.returned (.int .u8 v)∧(v == 0)=!isResB l∧(v != 0)=isResB l
theorem word_any (w:World) (s:ByteArray) (h:ResTab w 1):Calls Tryz.prog 92 #[.string s] w fun e w'=>WordOut e s.toList∧w=w':=by
 have HT:=Lib.hid h
 clear h
 go_enter Tryz.func92,Tryz.ntmps92
 go_wp2_with (refine wpList_load122 rfl _ rfl 1 rfl HT.out ?_)
 go_loop [6] (fun i=>∃ k:Nat,k≤35∧i=.int .i64 k∧(resL.take k).any (· == s.toList)=false) (fun i=>35 - (intOf i).toNat)
 case atStart=>exact ⟨0,by omega,rfl,rfl⟩
 case round =>
  obtain ⟨k,hk,rfl,ha⟩:=hrel
  have HA:=Lib.hid ha
  clear ha
  by_cases hlt:k < 35
  · have hix:=idx122 k hlt
    have hltI:(k:Int) < 35:=by omega
    cases hw:((resS k).toList == s.toList) with
    | true =>
      have HW:=Lib.hid (isRes_yes k hlt hw)
      go_wp2
      go_ret
      refine ⟨⟨_,rfl,?_,?_⟩,rfl⟩ <;> rw [HW.out] <;> simp <;> omega
    | false =>
      have HW:=Lib.hid (isRes_take k hlt HA.out hw)
      go_wp2
      go_round
      case rel=>exact ⟨k+1,by omega,by go_num,HW.out⟩
      case measure=>simp [intOf];omega
  · have hltI:¬ (k:Int) < 35:=by omega
    have HW:=Lib.hid (show isResB s.toList=false by
     have:=HA.out
     rwa [List.take_of_length_le (show resL.length≤k by have:resL.length=35:=rfl;omega)] at this)
    go_wp2
    go_ret
    exact ⟨⟨0,rfl,by rw [HW.out];rfl,by rw [HW.out];rfl⟩,rfl⟩
theorem isres_any (w:World) (s:ByteArray) (h:ResTab w 1):Calls Tryz.prog 78 #[.string s] w fun e w'=>e=.returned (.bool (isResB s.data.toList))∧w=w':=by
 go_enter Tryz.func78,Tryz.ntmps78
 go_wp2_with fail
 refine (word_any _ _ h).mono ?_
 rintro e w' ⟨⟨v,rfl,h1,h2⟩,rfl⟩
 rw [ByteArray.toList_eq] at h1 h2
 cases hr:isResB s.data.toList <;> rw [hr] at h1 h2 <;> simp only [Bool.not_false,Bool.not_true] at h1 h2
 all_goals
  have HR:=Lib.hid hr
  clear hr
  go_wp2
  go_ret
  exact ⟨ret_bool HR.out.symm,rfl⟩
/-- Is it a name? -/
def legalB (l:List UInt8):Bool:=nameB l && !isResB l
theorem legal_any (w:World) (s:ByteArray) (hs:s.size≤maxLen) (h:ResTab w 1):Calls Tryz.prog 66 #[.string s] w fun e w'=>e=.returned (.bool (legalB s.data.toList))∧w=w':=by
 go_enter Tryz.func66,Tryz.ntmps66
 go_wp2_with (first | (go_at_call 77;refine (starts_any _ _ hs).mono ?_;rintro e w' ⟨rfl,rfl⟩) | (go_at_call 78;refine (isres_any _ _ h).mono ?_;rintro e w' ⟨rfl,rfl⟩))
 all_goals go_ret
 all_goals exact ⟨ret_bool (by simp_all [legalB]),rfl⟩
end Go.Proofs.YtcnckjlmldnblaaGreatDoor

