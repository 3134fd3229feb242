import Derived.Test.YtcnckjlmldnblaaGreatDoorK1
import Derived.Test.YtcnckjlmldnblaaGreatDoorK4
import Derived.Test.YtcnckjlmldnblaaGreatDoorK5
import Derived.Test.YtcnckjlmldnblaaGreatDoorB1
namespace Go.Proofs.YtcnckjlmldnblaaGreatDoor
open Go Go.RowKit
set_option maxRecDepth 100000
set_option maxHeartbeats 4000000
set_option linter.unusedVariables false
set_option linter.unusedSimpArgs false
theorem refletter_any (w:World) (c:UInt8):Calls Tryz.prog 103 #[.int .u8 (c.toNat:Int)] w fun e w'=>e=.returned (.bool (letterB c))∧w=w':=by
 go_enter Tryz.func103,Tryz.ntmps103
 go_wp2
 all_goals go_ret
 all_goals exact ⟨ret_bool (by simp_all [letterB] <;> try omega),rfl⟩
theorem refdigit_any (w:World) (c:UInt8):Calls Tryz.prog 116 #[.int .u8 (c.toNat:Int)] w fun e w'=>e=.returned (.bool (digitB c))∧w=w':=by
 go_enter Tryz.func116,Tryz.ntmps116
 go_wp2
 all_goals go_ret
 all_goals exact ⟨ret_bool (by simp_all [digitB] <;> try omega),rfl⟩
theorem refword_any (w:World) (c:UInt8):Calls Tryz.prog 104 #[.int .u8 (c.toNat:Int)] w fun e w'=>e=.returned (.bool (wordB c))∧w=w':=by
 go_enter Tryz.func104,Tryz.ntmps104
 go_wp2_with (first | (go_at_call 103;refine (refletter_any _ _).mono ?_;rintro e w' ⟨rfl,rfl⟩) | (go_at_call 116;refine (refdigit_any _ _).mono ?_;rintro e w' ⟨rfl,rfl⟩))
 all_goals go_ret
 all_goals exact ⟨ret_bool (by simp_all [wordB]),rfl⟩
theorem refstarts_any (w:World) (s:ByteArray) (hs:s.size≤maxLen):Calls Tryz.prog 86 #[.string s] w fun e w'=>e=.returned (.bool (nameB s.data.toList))∧w=w':=by
 unfold maxLen at hs
 by_cases h0:s.size=0
 · go_enter Tryz.func86,Tryz.ntmps86
   go_wp2
   go_ret
   exact ⟨ret_bool (by simp [nameB,h0]),rfl⟩
 by_cases h1:64 < s.size
 · have h1':(64:Int) < (s.size:Int):=by omega
   go_enter Tryz.func86,Tryz.ntmps86
   go_wp2
   go_ret
   exact ⟨ret_bool (by rw [nameB,lenS,decide_eq_false (show ¬ s.size≤64 by omega)];simp),rfl⟩
 have h0':0 < s.size:=by omega
 have hc0:((s.size:Int) == 0)=false:=by simpa using h0
 have hg:=get_first s h0'
 by_cases h2:letterB s[0]=true
 · have h1':¬ (64:Int) < (s.size:Int):=by omega
   have HG:=Lib.hid hg
   have H2:=Lib.hid h2
   clear hg
   go_enter Tryz.func86,Tryz.ntmps86
   go_wp2_with (first | (go_at_call 103;refine (refletter_any _ _).mono ?_;rintro e w' ⟨rfl,rfl⟩))
   go_loop [3] (fun i=>∃ k:Nat,k≤s.size∧i=.int .i64 k∧(s.data.toList.take k).all wordB=true) (fun i=>s.size - (intOf i).toNat)
   case atStart=>exact ⟨0,Nat.zero_le _,rfl,rfl⟩
   case round =>
    obtain ⟨k,hk,rfl,ha⟩:=hrel
    have HA:=Lib.hid ha
    clear ha h2
    by_cases hlt:k < s.size
    · have hts:=Lib.hid (take_snoc s k hlt)
      by_cases hw:wordB s[k]=true
      · go_wp2_with (first | (go_at_call 104;refine (refword_any _ _).mono ?_;rintro e w' ⟨rfl,rfl⟩))
        go_round
        case rel=>exact ⟨k+1,by omega,by go_num,by rw [hts.out,List.all_append,HA.out];simp [hw]⟩
        case measure=>simp [intOf];omega
      · have hw':wordB s[k]=false:=by simpa using hw
        have HW:=Lib.hid (all_false s k hlt hw')
        clear hw
        go_wp2_with (first | (go_at_call 104;refine (refword_any _ _).mono ?_;rintro e w' ⟨rfl,rfl⟩))
        go_ret
        exact ⟨ret_bool (by simp only [nameB,HW.out,Bool.and_false]),rfl⟩
    · go_wp2
      go_ret
      exact ⟨ret_bool (by
       have hA:=HA.out
       rw [List.take_of_length_le (by simp;omega)] at hA
       rw [nameB,hA,HG.out,H2.out];simp;omega),rfl⟩
 · have h2':letterB s[0]=false:=by simpa using h2
   have h1':¬ (64:Int) < (s.size:Int):=by omega
   have HG:=Lib.hid hg
   clear h2 hg
   go_enter Tryz.func86,Tryz.ntmps86
   go_wp2_with (first | (go_at_call 103;refine (refletter_any _ _).mono ?_;rintro e w' ⟨rfl,rfl⟩))
   go_ret
   exact ⟨ret_bool (by rw [nameB,HG.out,h2'];simp),rfl⟩
theorem refisres_any (w:World) (s:ByteArray) (h:ResTab w 0):Calls Tryz.prog 87 #[.string s] w fun e w'=>e=.returned (.bool (isResB s.data.toList))∧w=w':=by
 have HT:=Lib.hid h
 clear h
 go_enter Tryz.func87,Tryz.ntmps87
 go_wp2
 go_loop [3] (fun i=>∃ k:Nat,k≤35∧i=.int .i64 k∧(resL.take k).any (· == s.toList)=false) (fun i=>35 - (intOf i).toNat)
 case atStart=>exact ⟨0,by omega,rfl,rfl⟩
 case round =>
  obtain ⟨k,hk,rfl,ha⟩:=hrel
  have HA:=Lib.hid ha
  clear ha
  by_cases hlt:k < 35
  · have hc:=HT.out k hlt
    have hltI:(k:Int) < 35:=by omega
    cases hw:((resS k).toList == s.toList) with
    | true =>
      have HW:=Lib.hid (isRes_yes k hlt hw)
      go_wp2
      go_ret
      exact ⟨ret_bool (by have:=HW.out;rw [ByteArray.toList_eq] at this;exact this.symm),rfl⟩
    | false =>
      have HW:=Lib.hid (isRes_take k hlt HA.out hw)
      go_wp2
      go_round
      case rel=>exact ⟨k+1,by omega,by go_num,HW.out⟩
      case measure=>simp [intOf];omega
  · have hltI:¬ (k:Int) < 35:=by omega
    have HW:=Lib.hid (show isResB s.toList=false by
     have:=HA.out
     rwa [List.take_of_length_le (show resL.length≤k by have:resL.length=35:=rfl;omega)] at this)
    go_wp2
    go_ret
    exact ⟨ret_bool (by have:=HW.out;rw [ByteArray.toList_eq] at this;exact this.symm),rfl⟩
theorem reflegal_any (w:World) (s:ByteArray) (hs:s.size≤maxLen) (h:ResTab w 0):Calls Tryz.prog 71 #[.string s] w fun e w'=>e=.returned (.bool (legalB s.data.toList))∧w=w':=by
 go_enter Tryz.func71,Tryz.ntmps71
 go_wp2_with (first | (go_at_call 86;refine (refstarts_any _ _ hs).mono ?_;rintro e w' ⟨rfl,rfl⟩) | (go_at_call 87;refine (refisres_any _ _ h).mono ?_;rintro e w' ⟨rfl,rfl⟩))
 all_goals go_ret
 all_goals exact ⟨ret_bool (by simp_all [legalB]),rfl⟩
/-- The reference's table of two bases. -/
def binK (op a b:Int):Int :=
 if op=18 then (if a=1∧b=1 then 1 else if (a=4∧b=1)∨(a=1∧b=4) then 4 else if a=5∧(b=5∨b=3) then 5 else 0)
 else if op=19 then (if (a=1∧b=1)∨(a=4∧b=4) then 1 else if a=4∧b=1 then 4 else if a=5∧(b=5∨b=3) then 5 else 0)
 else if op=20∨op=21∨op=22 then (if a=1∧b=1 then 1 else 0)
 else if op=13∨op=14∨op=15∨op=16 then (if a=b∧(a=1∨a=4∨a=3) then 2 else 0)
 else if op=17 then (if a=3∧b=5 then 2 else 0)
 else if op=9∨op=10 then (if a=2∧b=2 then 2 else 0)
 else if op=28 then (if a=3∧b=3 then 3 else 0)
 else if op=31∨op=32 then (if a=b∧(a=1∨a=4) then a else 0)
 else 0
theorem bin9 (w:World) (a b:Int):Calls Tryz.prog 107 #[.int .i64 9,.int .i64 a,.int .i64 b] w fun e w'=>e=.returned (.int .i64 (binK 9 a b))∧w=w':=by
 go_enter Tryz.func107,Tryz.ntmps107
 go_wp2
 all_goals go_ret
 all_goals exact ⟨ret_intk (by simp_all [binK] <;> try omega),rfl⟩
theorem bin10 (w:World) (a b:Int):Calls Tryz.prog 107 #[.int .i64 10,.int .i64 a,.int .i64 b] w fun e w'=>e=.returned (.int .i64 (binK 10 a b))∧w=w':=by
 go_enter Tryz.func107,Tryz.ntmps107
 go_wp2
 all_goals go_ret
 all_goals exact ⟨ret_intk (by simp_all [binK] <;> try omega),rfl⟩
theorem bin13 (w:World) (a b:Int):Calls Tryz.prog 107 #[.int .i64 13,.int .i64 a,.int .i64 b] w fun e w'=>e=.returned (.int .i64 (binK 13 a b))∧w=w':=by
 go_enter Tryz.func107,Tryz.ntmps107
 go_wp2
 all_goals go_ret
 all_goals exact ⟨ret_intk (by simp_all [binK] <;> try omega),rfl⟩
theorem bin14 (w:World) (a b:Int):Calls Tryz.prog 107 #[.int .i64 14,.int .i64 a,.int .i64 b] w fun e w'=>e=.returned (.int .i64 (binK 14 a b))∧w=w':=by
 go_enter Tryz.func107,Tryz.ntmps107
 go_wp2
 all_goals go_ret
 all_goals exact ⟨ret_intk (by simp_all [binK] <;> try omega),rfl⟩
theorem bin15 (w:World) (a b:Int):Calls Tryz.prog 107 #[.int .i64 15,.int .i64 a,.int .i64 b] w fun e w'=>e=.returned (.int .i64 (binK 15 a b))∧w=w':=by
 go_enter Tryz.func107,Tryz.ntmps107
 go_wp2
 all_goals go_ret
 all_goals exact ⟨ret_intk (by simp_all [binK] <;> try omega),rfl⟩
theorem bin16 (w:World) (a b:Int):Calls Tryz.prog 107 #[.int .i64 16,.int .i64 a,.int .i64 b] w fun e w'=>e=.returned (.int .i64 (binK 16 a b))∧w=w':=by
 go_enter Tryz.func107,Tryz.ntmps107
 go_wp2
 all_goals go_ret
 all_goals exact ⟨ret_intk (by simp_all [binK] <;> try omega),rfl⟩
theorem bin17 (w:World) (a b:Int):Calls Tryz.prog 107 #[.int .i64 17,.int .i64 a,.int .i64 b] w fun e w'=>e=.returned (.int .i64 (binK 17 a b))∧w=w':=by
 go_enter Tryz.func107,Tryz.ntmps107
 go_wp2
 all_goals go_ret
 all_goals exact ⟨ret_intk (by simp_all [binK] <;> try omega),rfl⟩
theorem bin18 (w:World) (a b:Int):Calls Tryz.prog 107 #[.int .i64 18,.int .i64 a,.int .i64 b] w fun e w'=>e=.returned (.int .i64 (binK 18 a b))∧w=w':=by
 go_enter Tryz.func107,Tryz.ntmps107
 go_wp2
 all_goals go_ret
 all_goals exact ⟨ret_intk (by simp_all [binK] <;> try omega),rfl⟩
theorem bin19 (w:World) (a b:Int):Calls Tryz.prog 107 #[.int .i64 19,.int .i64 a,.int .i64 b] w fun e w'=>e=.returned (.int .i64 (binK 19 a b))∧w=w':=by
 go_enter Tryz.func107,Tryz.ntmps107
 go_wp2
 all_goals go_ret
 all_goals exact ⟨ret_intk (by simp_all [binK] <;> try omega),rfl⟩
theorem bin20 (w:World) (a b:Int):Calls Tryz.prog 107 #[.int .i64 20,.int .i64 a,.int .i64 b] w fun e w'=>e=.returned (.int .i64 (binK 20 a b))∧w=w':=by
 go_enter Tryz.func107,Tryz.ntmps107
 go_wp2
 all_goals go_ret
 all_goals exact ⟨ret_intk (by simp_all [binK] <;> try omega),rfl⟩
theorem bin21 (w:World) (a b:Int):Calls Tryz.prog 107 #[.int .i64 21,.int .i64 a,.int .i64 b] w fun e w'=>e=.returned (.int .i64 (binK 21 a b))∧w=w':=by
 go_enter Tryz.func107,Tryz.ntmps107
 go_wp2
 all_goals go_ret
 all_goals exact ⟨ret_intk (by simp_all [binK] <;> try omega),rfl⟩
theorem bin22 (w:World) (a b:Int):Calls Tryz.prog 107 #[.int .i64 22,.int .i64 a,.int .i64 b] w fun e w'=>e=.returned (.int .i64 (binK 22 a b))∧w=w':=by
 go_enter Tryz.func107,Tryz.ntmps107
 go_wp2
 all_goals go_ret
 all_goals exact ⟨ret_intk (by simp_all [binK] <;> try omega),rfl⟩
theorem bin28 (w:World) (a b:Int):Calls Tryz.prog 107 #[.int .i64 28,.int .i64 a,.int .i64 b] w fun e w'=>e=.returned (.int .i64 (binK 28 a b))∧w=w':=by
 go_enter Tryz.func107,Tryz.ntmps107
 go_wp2
 all_goals go_ret
 all_goals exact ⟨ret_intk (by simp_all [binK] <;> try omega),rfl⟩
theorem bin31 (w:World) (a b:Int):Calls Tryz.prog 107 #[.int .i64 31,.int .i64 a,.int .i64 b] w fun e w'=>e=.returned (.int .i64 (binK 31 a b))∧w=w':=by
 go_enter Tryz.func107,Tryz.ntmps107
 go_wp2
 all_goals go_ret
 all_goals exact ⟨ret_intk (by simp_all [binK] <;> try omega),rfl⟩
theorem bin32 (w:World) (a b:Int):Calls Tryz.prog 107 #[.int .i64 32,.int .i64 a,.int .i64 b] w fun e w'=>e=.returned (.int .i64 (binK 32 a b))∧w=w':=by
 go_enter Tryz.func107,Tryz.ntmps107
 go_wp2
 all_goals go_ret
 all_goals exact ⟨ret_intk (by simp_all [binK] <;> try omega),rfl⟩
theorem binary_any (w:World) (op a b:Int) (h:op=9∨op=10∨op=13∨op=14∨op=15∨op=16∨op=17∨op=18∨op=19∨op=20∨op=21∨op=22∨op=28∨op=31∨op=32):Calls Tryz.prog 107 #[.int .i64 op,.int .i64 a,.int .i64 b] w fun e w'=>e=.returned (.int .i64 (binK op a b))∧w=w':=by
 rcases h with rfl | rfl | rfl | rfl | rfl | rfl | rfl | rfl | rfl | rfl | rfl | rfl | rfl | rfl | rfl
 · exact bin9 w a b
 · exact bin10 w a b
 · exact bin13 w a b
 · exact bin14 w a b
 · exact bin15 w a b
 · exact bin16 w a b
 · exact bin17 w a b
 · exact bin18 w a b
 · exact bin19 w a b
 · exact bin20 w a b
 · exact bin21 w a b
 · exact bin22 w a b
 · exact bin28 w a b
 · exact bin31 w a b
 · exact bin32 w a b
theorem kid1 (w:World):Calls Tryz.prog 70 #[.int .i64 1] w fun e w'=>e=.returned (.int .i64 (kidsN 1))∧w=w':=by
 go_enter Tryz.func70,Tryz.ntmps70
 go_wp2
 go_ret
 exact ⟨rfl,rfl⟩
theorem kid2 (w:World):Calls Tryz.prog 70 #[.int .i64 2] w fun e w'=>e=.returned (.int .i64 (kidsN 2))∧w=w':=by
 go_enter Tryz.func70,Tryz.ntmps70
 go_wp2
 go_ret
 exact ⟨rfl,rfl⟩
theorem kid3 (w:World):Calls Tryz.prog 70 #[.int .i64 3] w fun e w'=>e=.returned (.int .i64 (kidsN 3))∧w=w':=by
 go_enter Tryz.func70,Tryz.ntmps70
 go_wp2
 go_ret
 exact ⟨rfl,rfl⟩
theorem kid4 (w:World):Calls Tryz.prog 70 #[.int .i64 4] w fun e w'=>e=.returned (.int .i64 (kidsN 4))∧w=w':=by
 go_enter Tryz.func70,Tryz.ntmps70
 go_wp2
 go_ret
 exact ⟨rfl,rfl⟩
theorem kid5 (w:World):Calls Tryz.prog 70 #[.int .i64 5] w fun e w'=>e=.returned (.int .i64 (kidsN 5))∧w=w':=by
 go_enter Tryz.func70,Tryz.ntmps70
 go_wp2
 go_ret
 exact ⟨rfl,rfl⟩
theorem kid6 (w:World):Calls Tryz.prog 70 #[.int .i64 6] w fun e w'=>e=.returned (.int .i64 (kidsN 6))∧w=w':=by
 go_enter Tryz.func70,Tryz.ntmps70
 go_wp2
 go_ret
 exact ⟨rfl,rfl⟩
theorem kid7 (w:World):Calls Tryz.prog 70 #[.int .i64 7] w fun e w'=>e=.returned (.int .i64 (kidsN 7))∧w=w':=by
 go_enter Tryz.func70,Tryz.ntmps70
 go_wp2
 go_ret
 exact ⟨rfl,rfl⟩
theorem kid8 (w:World):Calls Tryz.prog 70 #[.int .i64 8] w fun e w'=>e=.returned (.int .i64 (kidsN 8))∧w=w':=by
 go_enter Tryz.func70,Tryz.ntmps70
 go_wp2
 go_ret
 exact ⟨rfl,rfl⟩
theorem kid9 (w:World):Calls Tryz.prog 70 #[.int .i64 9] w fun e w'=>e=.returned (.int .i64 (kidsN 9))∧w=w':=by
 go_enter Tryz.func70,Tryz.ntmps70
 go_wp2
 go_ret
 exact ⟨rfl,rfl⟩
theorem kid10 (w:World):Calls Tryz.prog 70 #[.int .i64 10] w fun e w'=>e=.returned (.int .i64 (kidsN 10))∧w=w':=by
 go_enter Tryz.func70,Tryz.ntmps70
 go_wp2
 go_ret
 exact ⟨rfl,rfl⟩
theorem kid11 (w:World):Calls Tryz.prog 70 #[.int .i64 11] w fun e w'=>e=.returned (.int .i64 (kidsN 11))∧w=w':=by
 go_enter Tryz.func70,Tryz.ntmps70
 go_wp2
 go_ret
 exact ⟨rfl,rfl⟩
theorem kid12 (w:World):Calls Tryz.prog 70 #[.int .i64 12] w fun e w'=>e=.returned (.int .i64 (kidsN 12))∧w=w':=by
 go_enter Tryz.func70,Tryz.ntmps70
 go_wp2
 go_ret
 exact ⟨rfl,rfl⟩
theorem kid13 (w:World):Calls Tryz.prog 70 #[.int .i64 13] w fun e w'=>e=.returned (.int .i64 (kidsN 13))∧w=w':=by
 go_enter Tryz.func70,Tryz.ntmps70
 go_wp2
 go_ret
 exact ⟨rfl,rfl⟩
theorem kid14 (w:World):Calls Tryz.prog 70 #[.int .i64 14] w fun e w'=>e=.returned (.int .i64 (kidsN 14))∧w=w':=by
 go_enter Tryz.func70,Tryz.ntmps70
 go_wp2
 go_ret
 exact ⟨rfl,rfl⟩
theorem kid15 (w:World):Calls Tryz.prog 70 #[.int .i64 15] w fun e w'=>e=.returned (.int .i64 (kidsN 15))∧w=w':=by
 go_enter Tryz.func70,Tryz.ntmps70
 go_wp2
 go_ret
 exact ⟨rfl,rfl⟩
theorem kid16 (w:World):Calls Tryz.prog 70 #[.int .i64 16] w fun e w'=>e=.returned (.int .i64 (kidsN 16))∧w=w':=by
 go_enter Tryz.func70,Tryz.ntmps70
 go_wp2
 go_ret
 exact ⟨rfl,rfl⟩
theorem kid17 (w:World):Calls Tryz.prog 70 #[.int .i64 17] w fun e w'=>e=.returned (.int .i64 (kidsN 17))∧w=w':=by
 go_enter Tryz.func70,Tryz.ntmps70
 go_wp2
 go_ret
 exact ⟨rfl,rfl⟩
theorem kid18 (w:World):Calls Tryz.prog 70 #[.int .i64 18] w fun e w'=>e=.returned (.int .i64 (kidsN 18))∧w=w':=by
 go_enter Tryz.func70,Tryz.ntmps70
 go_wp2
 go_ret
 exact ⟨rfl,rfl⟩
theorem kid19 (w:World):Calls Tryz.prog 70 #[.int .i64 19] w fun e w'=>e=.returned (.int .i64 (kidsN 19))∧w=w':=by
 go_enter Tryz.func70,Tryz.ntmps70
 go_wp2
 go_ret
 exact ⟨rfl,rfl⟩
theorem kid20 (w:World):Calls Tryz.prog 70 #[.int .i64 20] w fun e w'=>e=.returned (.int .i64 (kidsN 20))∧w=w':=by
 go_enter Tryz.func70,Tryz.ntmps70
 go_wp2
 go_ret
 exact ⟨rfl,rfl⟩
theorem kid21 (w:World):Calls Tryz.prog 70 #[.int .i64 21] w fun e w'=>e=.returned (.int .i64 (kidsN 21))∧w=w':=by
 go_enter Tryz.func70,Tryz.ntmps70
 go_wp2
 go_ret
 exact ⟨rfl,rfl⟩
theorem kid22 (w:World):Calls Tryz.prog 70 #[.int .i64 22] w fun e w'=>e=.returned (.int .i64 (kidsN 22))∧w=w':=by
 go_enter Tryz.func70,Tryz.ntmps70
 go_wp2
 go_ret
 exact ⟨rfl,rfl⟩
theorem kid23 (w:World):Calls Tryz.prog 70 #[.int .i64 23] w fun e w'=>e=.returned (.int .i64 (kidsN 23))∧w=w':=by
 go_enter Tryz.func70,Tryz.ntmps70
 go_wp2
 go_ret
 exact ⟨rfl,rfl⟩
theorem kid24 (w:World):Calls Tryz.prog 70 #[.int .i64 24] w fun e w'=>e=.returned (.int .i64 (kidsN 24))∧w=w':=by
 go_enter Tryz.func70,Tryz.ntmps70
 go_wp2
 go_ret
 exact ⟨rfl,rfl⟩
theorem kid25 (w:World):Calls Tryz.prog 70 #[.int .i64 25] w fun e w'=>e=.returned (.int .i64 (kidsN 25))∧w=w':=by
 go_enter Tryz.func70,Tryz.ntmps70
 go_wp2
 go_ret
 exact ⟨rfl,rfl⟩
theorem kid26 (w:World):Calls Tryz.prog 70 #[.int .i64 26] w fun e w'=>e=.returned (.int .i64 (kidsN 26))∧w=w':=by
 go_enter Tryz.func70,Tryz.ntmps70
 go_wp2
 go_ret
 exact ⟨rfl,rfl⟩
theorem kid27 (w:World):Calls Tryz.prog 70 #[.int .i64 27] w fun e w'=>e=.returned (.int .i64 (kidsN 27))∧w=w':=by
 go_enter Tryz.func70,Tryz.ntmps70
 go_wp2
 go_ret
 exact ⟨rfl,rfl⟩
theorem kid28 (w:World):Calls Tryz.prog 70 #[.int .i64 28] w fun e w'=>e=.returned (.int .i64 (kidsN 28))∧w=w':=by
 go_enter Tryz.func70,Tryz.ntmps70
 go_wp2
 go_ret
 exact ⟨rfl,rfl⟩
theorem kid29 (w:World):Calls Tryz.prog 70 #[.int .i64 29] w fun e w'=>e=.returned (.int .i64 (kidsN 29))∧w=w':=by
 go_enter Tryz.func70,Tryz.ntmps70
 go_wp2
 go_ret
 exact ⟨rfl,rfl⟩
theorem kid30 (w:World):Calls Tryz.prog 70 #[.int .i64 30] w fun e w'=>e=.returned (.int .i64 (kidsN 30))∧w=w':=by
 go_enter Tryz.func70,Tryz.ntmps70
 go_wp2
 go_ret
 exact ⟨rfl,rfl⟩
theorem kid31 (w:World):Calls Tryz.prog 70 #[.int .i64 31] w fun e w'=>e=.returned (.int .i64 (kidsN 31))∧w=w':=by
 go_enter Tryz.func70,Tryz.ntmps70
 go_wp2
 go_ret
 exact ⟨rfl,rfl⟩
theorem kid32 (w:World):Calls Tryz.prog 70 #[.int .i64 32] w fun e w'=>e=.returned (.int .i64 (kidsN 32))∧w=w':=by
 go_enter Tryz.func70,Tryz.ntmps70
 go_wp2
 go_ret
 exact ⟨rfl,rfl⟩
theorem kid33 (w:World):Calls Tryz.prog 70 #[.int .i64 33] w fun e w'=>e=.returned (.int .i64 (kidsN 33))∧w=w':=by
 go_enter Tryz.func70,Tryz.ntmps70
 go_wp2
 go_ret
 exact ⟨rfl,rfl⟩
theorem kidout (w:World) (op:Int) (h:op < 1∨34≤op):Calls Tryz.prog 70 #[.int .i64 op] w fun e w'=>e=.returned (.int .i64 (-2))∧w=w':=by
 rcases h with h | h
 · go_enter Tryz.func70,Tryz.ntmps70
   go_wp2
   go_ret
   exact ⟨rfl,rfl⟩
 · have h':¬ op < 1:=by omega
   go_enter Tryz.func70,Tryz.ntmps70
   go_wp2
   go_ret
   exact ⟨rfl,rfl⟩
theorem kidsof_any (w:World) (op:Int):Calls Tryz.prog 70 #[.int .i64 op] w fun e w'=>e=.returned (.int .i64 (kidsN op))∧w=w':=by
 by_cases h:op < 1∨34≤op
 · rw [show kidsN op=-2 by simp only [kidsN];rw [if_pos h]]
   exact kidout w op h
 · have h:op=1∨op=2∨op=3∨op=4∨op=5∨op=6∨op=7∨op=8∨op=9∨op=10∨op=11∨op=12∨op=13∨op=14∨op=15∨op=16∨op=17∨op=18∨op=19∨op=20∨op=21∨op=22∨op=23∨op=24∨op=25∨op=26∨op=27∨op=28∨op=29∨op=30∨op=31∨op=32∨op=33:=by omega
   rcases h with rfl | rfl | rfl | rfl | rfl | rfl | rfl | rfl | rfl | rfl | rfl | rfl | rfl | rfl | rfl | rfl | rfl | rfl | rfl | rfl | rfl | rfl | rfl | rfl | rfl | rfl | rfl | rfl | rfl | rfl | rfl | rfl | rfl
   · exact kid1 w
   · exact kid2 w
   · exact kid3 w
   · exact kid4 w
   · exact kid5 w
   · exact kid6 w
   · exact kid7 w
   · exact kid8 w
   · exact kid9 w
   · exact kid10 w
   · exact kid11 w
   · exact kid12 w
   · exact kid13 w
   · exact kid14 w
   · exact kid15 w
   · exact kid16 w
   · exact kid17 w
   · exact kid18 w
   · exact kid19 w
   · exact kid20 w
   · exact kid21 w
   · exact kid22 w
   · exact kid23 w
   · exact kid24 w
   · exact kid25 w
   · exact kid26 w
   · exact kid27 w
   · exact kid28 w
   · exact kid29 w
   · exact kid30 w
   · exact kid31 w
   · exact kid32 w
   · exact kid33 w
def Kd (k:Int × Bool):List Value:=[.int .i64 k.1,.bool k.2]
theorem below_set2 {B:Nat} {a w:World} (h:Below B a w) (b:Nat) (hb:B≤b) (x y:Value):Below B a ((w.setCell ⟨b,0,none⟩ x).setCell ⟨b,1,none⟩ y) :=
 (h.setCell (p:=⟨b,0,none⟩) hb x).setCell (p:=⟨b,1,none⟩) hb y
section
variable {P : Program} {w : World} {ops : Array Oper} {rest : List Oper} {o : Oper} {a : Act} {Q : Exit → Act → World → Prop}
end
theorem Kd_len (k:Int × Bool):(Kd k).length=2:=rfl
theorem rr1 (w:World) (nm:ByteArray) (vk vn:Int) (vt:ByteArray) (sa:Option Addr) (sl sc:Nat) (ka:Option Addr) (kl kc:Nat) (hnm:nm.size≤maxLen) (hr:ResTab w 0) (h1:0 < w.heap.size) :
 Calls Tryz.prog 56 #[.agg (nodeV 1 nm vk vn vt sa sl sc ka kl kc)] w fun e w'=>e=.returned (.bool (rightB 1 nm.data.toList vk vn vt.data.toList sl kl))∧Below w.heap.size w w':=by
 have HR:=Lib.hid hr
 have hk:kidsN 1=0:=rfl
 clear hr
 go_enter Tryz.func56,Tryz.ntmps56
 go_wp2_with (first | (go_at_call 70;refine (kidsof_any _ _).mono ?_;rintro e w' ⟨rfl,rfl⟩) | (go_at_call 71;refine (reflegal_any _ _ hnm (ResTab.below HR.out ((Below.refl _ _).alloc (Nat.le_refl _) _) h1 h1)).mono ?_;rintro e w' ⟨rfl,rfl⟩))
 all_goals go_ret
 all_goals refine ⟨ret_bool ?_,?_⟩
 all_goals first
  | exact (Below.refl _ _).alloc (Nat.le_refl _) _
  | exact ((Below.refl _ _).alloc (Nat.le_refl _) _).alloc (by simp) _
  | (simp_all [rightB,namedB,valB,ByteArray.toList_eq];done)
  | (simp_all [rightB,namedB,valB] <;> intros <;> omega)
  | (simp_all [rightB,namedB,valB,ByteArray.toList_eq] <;> intros <;> omega)
  | (simp_all [rightB,namedB,valB,ByteArray.toList_eq] <;> grind)
theorem rr2 (w:World) (nm:ByteArray) (vk vn:Int) (vt:ByteArray) (sa:Option Addr) (sl sc:Nat) (ka:Option Addr) (kl kc:Nat) (hnm:nm.size≤maxLen) (hr:ResTab w 0) (h1:0 < w.heap.size) :
 Calls Tryz.prog 56 #[.agg (nodeV 2 nm vk vn vt sa sl sc ka kl kc)] w fun e w'=>e=.returned (.bool (rightB 2 nm.data.toList vk vn vt.data.toList sl kl))∧Below w.heap.size w w':=by
 have HR:=Lib.hid hr
 have hk:kidsN 2=0:=rfl
 clear hr
 go_enter Tryz.func56,Tryz.ntmps56
 go_wp2_with (first | (go_at_call 70;refine (kidsof_any _ _).mono ?_;rintro e w' ⟨rfl,rfl⟩) | (go_at_call 71;refine (reflegal_any _ _ hnm (ResTab.below HR.out ((Below.refl _ _).alloc (Nat.le_refl _) _) h1 h1)).mono ?_;rintro e w' ⟨rfl,rfl⟩))
 all_goals go_ret
 all_goals refine ⟨ret_bool ?_,?_⟩
 all_goals first
  | exact (Below.refl _ _).alloc (Nat.le_refl _) _
  | exact ((Below.refl _ _).alloc (Nat.le_refl _) _).alloc (by simp) _
  | (simp_all [rightB,namedB,valB,ByteArray.toList_eq];done)
  | (simp_all [rightB,namedB,valB] <;> intros <;> omega)
  | (simp_all [rightB,namedB,valB,ByteArray.toList_eq] <;> intros <;> omega)
  | (simp_all [rightB,namedB,valB,ByteArray.toList_eq] <;> grind)
theorem rr3 (w:World) (nm:ByteArray) (vk vn:Int) (vt:ByteArray) (sa:Option Addr) (sl sc:Nat) (ka:Option Addr) (kl kc:Nat) (hnm:nm.size≤maxLen) (hr:ResTab w 0) (h1:0 < w.heap.size) :
 Calls Tryz.prog 56 #[.agg (nodeV 3 nm vk vn vt sa sl sc ka kl kc)] w fun e w'=>e=.returned (.bool (rightB 3 nm.data.toList vk vn vt.data.toList sl kl))∧Below w.heap.size w w':=by
 have HR:=Lib.hid hr
 have hk:kidsN 3=0:=rfl
 clear hr
 go_enter Tryz.func56,Tryz.ntmps56
 go_wp2_with (first | (go_at_call 70;refine (kidsof_any _ _).mono ?_;rintro e w' ⟨rfl,rfl⟩) | (go_at_call 71;refine (reflegal_any _ _ hnm (ResTab.below HR.out ((Below.refl _ _).alloc (Nat.le_refl _) _) h1 h1)).mono ?_;rintro e w' ⟨rfl,rfl⟩))
 all_goals go_ret
 all_goals refine ⟨ret_bool ?_,?_⟩
 all_goals first
  | exact (Below.refl _ _).alloc (Nat.le_refl _) _
  | exact ((Below.refl _ _).alloc (Nat.le_refl _) _).alloc (by simp) _
  | (simp_all [rightB,namedB,valB,ByteArray.toList_eq];done)
  | (simp_all [rightB,namedB,valB] <;> intros <;> omega)
  | (simp_all [rightB,namedB,valB,ByteArray.toList_eq] <;> intros <;> omega)
  | (simp_all [rightB,namedB,valB,ByteArray.toList_eq] <;> grind)
theorem rr5 (w:World) (nm:ByteArray) (vk vn:Int) (vt:ByteArray) (sa:Option Addr) (sl sc:Nat) (ka:Option Addr) (kl kc:Nat) (hnm:nm.size≤maxLen) (hr:ResTab w 0) (h1:0 < w.heap.size) :
 Calls Tryz.prog 56 #[.agg (nodeV 5 nm vk vn vt sa sl sc ka kl kc)] w fun e w'=>e=.returned (.bool (rightB 5 nm.data.toList vk vn vt.data.toList sl kl))∧Below w.heap.size w w':=by
 have HR:=Lib.hid hr
 have hk:kidsN 5=0:=rfl
 clear hr
 go_enter Tryz.func56,Tryz.ntmps56
 go_wp2_with (first | (go_at_call 70;refine (kidsof_any _ _).mono ?_;rintro e w' ⟨rfl,rfl⟩) | (go_at_call 71;refine (reflegal_any _ _ hnm (ResTab.below HR.out ((Below.refl _ _).alloc (Nat.le_refl _) _) h1 h1)).mono ?_;rintro e w' ⟨rfl,rfl⟩))
 all_goals go_ret
 all_goals refine ⟨ret_bool ?_,?_⟩
 all_goals first
  | exact (Below.refl _ _).alloc (Nat.le_refl _) _
  | exact ((Below.refl _ _).alloc (Nat.le_refl _) _).alloc (by simp) _
  | (simp_all [rightB,namedB,valB,ByteArray.toList_eq];done)
  | (simp_all [rightB,namedB,valB] <;> intros <;> omega)
  | (simp_all [rightB,namedB,valB,ByteArray.toList_eq] <;> intros <;> omega)
  | (simp_all [rightB,namedB,valB,ByteArray.toList_eq] <;> grind)
theorem rr24 (w:World) (nm:ByteArray) (vk vn:Int) (vt:ByteArray) (sa:Option Addr) (sl sc:Nat) (ka:Option Addr) (kl kc:Nat) (hnm:nm.size≤maxLen) (hr:ResTab w 0) (h1:0 < w.heap.size) :
 Calls Tryz.prog 56 #[.agg (nodeV 24 nm vk vn vt sa sl sc ka kl kc)] w fun e w'=>e=.returned (.bool (rightB 24 nm.data.toList vk vn vt.data.toList sl kl))∧Below w.heap.size w w':=by
 have HR:=Lib.hid hr
 have hk:kidsN 24=0:=rfl
 clear hr
 go_enter Tryz.func56,Tryz.ntmps56
 go_wp2_with (first | (go_at_call 70;refine (kidsof_any _ _).mono ?_;rintro e w' ⟨rfl,rfl⟩) | (go_at_call 71;refine (reflegal_any _ _ hnm (ResTab.below HR.out ((Below.refl _ _).alloc (Nat.le_refl _) _) h1 h1)).mono ?_;rintro e w' ⟨rfl,rfl⟩))
 all_goals go_ret
 all_goals refine ⟨ret_bool ?_,?_⟩
 all_goals first
  | exact (Below.refl _ _).alloc (Nat.le_refl _) _
  | exact ((Below.refl _ _).alloc (Nat.le_refl _) _).alloc (by simp) _
  | (simp_all [rightB,namedB,valB,ByteArray.toList_eq];done)
  | (simp_all [rightB,namedB,valB] <;> intros <;> omega)
  | (simp_all [rightB,namedB,valB,ByteArray.toList_eq] <;> intros <;> omega)
  | (simp_all [rightB,namedB,valB,ByteArray.toList_eq] <;> grind)
theorem rr25 (w:World) (nm:ByteArray) (vk vn:Int) (vt:ByteArray) (sa:Option Addr) (sl sc:Nat) (ka:Option Addr) (kl kc:Nat) (hnm:nm.size≤maxLen) (hr:ResTab w 0) (h1:0 < w.heap.size) :
 Calls Tryz.prog 56 #[.agg (nodeV 25 nm vk vn vt sa sl sc ka kl kc)] w fun e w'=>e=.returned (.bool (rightB 25 nm.data.toList vk vn vt.data.toList sl kl))∧Below w.heap.size w w':=by
 have HR:=Lib.hid hr
 have hk:kidsN 25=0:=rfl
 clear hr
 go_enter Tryz.func56,Tryz.ntmps56
 go_wp2_with (first | (go_at_call 70;refine (kidsof_any _ _).mono ?_;rintro e w' ⟨rfl,rfl⟩) | (go_at_call 71;refine (reflegal_any _ _ hnm (ResTab.below HR.out ((Below.refl _ _).alloc (Nat.le_refl _) _) h1 h1)).mono ?_;rintro e w' ⟨rfl,rfl⟩))
 all_goals go_ret
 all_goals refine ⟨ret_bool ?_,?_⟩
 all_goals first
  | exact (Below.refl _ _).alloc (Nat.le_refl _) _
  | exact ((Below.refl _ _).alloc (Nat.le_refl _) _).alloc (by simp) _
  | (simp_all [rightB,namedB,valB,ByteArray.toList_eq];done)
  | (simp_all [rightB,namedB,valB] <;> intros <;> omega)
  | (simp_all [rightB,namedB,valB,ByteArray.toList_eq] <;> intros <;> omega)
  | (simp_all [rightB,namedB,valB,ByteArray.toList_eq] <;> grind)
theorem rr26 (w:World) (nm:ByteArray) (vk vn:Int) (vt:ByteArray) (sa:Option Addr) (sl sc:Nat) (ka:Option Addr) (kl kc:Nat) (hnm:nm.size≤maxLen) (hr:ResTab w 0) (h1:0 < w.heap.size) :
 Calls Tryz.prog 56 #[.agg (nodeV 26 nm vk vn vt sa sl sc ka kl kc)] w fun e w'=>e=.returned (.bool (rightB 26 nm.data.toList vk vn vt.data.toList sl kl))∧Below w.heap.size w w':=by
 have HR:=Lib.hid hr
 have hk:kidsN 26=0:=rfl
 clear hr
 go_enter Tryz.func56,Tryz.ntmps56
 go_wp2_with (first | (go_at_call 70;refine (kidsof_any _ _).mono ?_;rintro e w' ⟨rfl,rfl⟩) | (go_at_call 71;refine (reflegal_any _ _ hnm (ResTab.below HR.out ((Below.refl _ _).alloc (Nat.le_refl _) _) h1 h1)).mono ?_;rintro e w' ⟨rfl,rfl⟩))
 all_goals go_ret
 all_goals refine ⟨ret_bool ?_,?_⟩
 all_goals first
  | exact (Below.refl _ _).alloc (Nat.le_refl _) _
  | exact ((Below.refl _ _).alloc (Nat.le_refl _) _).alloc (by simp) _
  | (simp_all [rightB,namedB,valB,ByteArray.toList_eq];done)
  | (simp_all [rightB,namedB,valB] <;> intros <;> omega)
  | (simp_all [rightB,namedB,valB,ByteArray.toList_eq] <;> intros <;> omega)
  | (simp_all [rightB,namedB,valB,ByteArray.toList_eq] <;> grind)
theorem kk_cases (op:Int):kidsN op=-2∨kidsN op=-1∨0≤kidsN op:=by
 simp only [kidsN]
 repeat' split
 all_goals omega
theorem rrrest (op:Int) (hop:op ≠ 1∧op ≠ 2∧op ≠ 3∧op ≠ 5∧op ≠ 24∧op ≠ 25∧op ≠ 26) (w:World) (nm:ByteArray) (vk vn:Int) (vt:ByteArray) (sa:Option Addr) (sl sc:Nat) (ka:Option Addr) (kl kc:Nat) (hnm:nm.size≤maxLen) (hr:ResTab w 0) (h1:0 < w.heap.size) :
 Calls Tryz.prog 56 #[.agg (nodeV op nm vk vn vt sa sl sc ka kl kc)] w fun e w'=>e=.returned (.bool (rightB op nm.data.toList vk vn vt.data.toList sl kl))∧Below w.heap.size w w':=by
 have HR:=Lib.hid hr
 have HO:=Lib.hid hop
 have hn:namedB op=false:=by simp [namedB];omega
 have hv:valB op vk vn vt.data.toList=(decide (vk=0) && decide (vn=0) && vt.data.toList.isEmpty):=by
  simp only [valB];rw [if_neg (by omega),if_neg (by omega),if_neg (by omega)]
 obtain ⟨kk,hkk⟩:∃ k,kidsN op=k:=⟨_,rfl⟩
 have e:rightB op nm.data.toList vk vn vt.data.toList sl kl=(!decide (kk=-2) && (decide (kk=-1) || decide ((kl:Int)=kk)) && nm.data.toList.isEmpty && decide (sl=0) && (decide (vk=0) && decide (vn=0) && vt.data.toList.isEmpty)):=by
  rw [rightB,hn,hv,hkk];rfl
 have HE:=Lib.hid e
 have f1:(op == 1)=false:=by simp;omega
 have f2:(op == 2)=false:=by simp;omega
 have f3:(op == 3)=false:=by simp;omega
 have f5:(op == 5)=false:=by simp;omega
 have f24:(op == 24)=false:=by simp;omega
 have f25:(op == 25)=false:=by simp;omega
 have f26:(op == 26)=false:=by simp;omega
 have hcc:=kk_cases op
 rw [hkk] at hcc
 clear hop hr hn hv e
 rcases hcc with rfl | rfl | h0
 · go_enter Tryz.func56,Tryz.ntmps56
   go_wp2_with (first | (go_at_call 70;refine (kidsof_any _ _).mono ?_;rintro e w' ⟨rfl,rfl⟩) | (go_at_call 71;refine (reflegal_any _ _ hnm (ResTab.below HR.out ((Below.refl _ _).alloc (Nat.le_refl _) _) h1 h1)).mono ?_;rintro e w' ⟨rfl,rfl⟩))
   all_goals go_ret
   all_goals refine ⟨ret_bool ?_,?_⟩
   all_goals first
    | exact (Below.refl _ _).alloc (Nat.le_refl _) _
    | exact ((Below.refl _ _).alloc (Nat.le_refl _) _).alloc (by simp) _
    | (rw [HE.out];simp_all;done)
    | (rw [HE.out];simp_all [ByteArray.toList_eq];done)
    | (rw [HE.out];simp_all <;> intros <;> omega)
    | (rw [HE.out];simp_all [ByteArray.toList_eq] <;> intros <;> omega)
 · go_enter Tryz.func56,Tryz.ntmps56
   go_wp2_with (first | (go_at_call 70;refine (kidsof_any _ _).mono ?_;rintro e w' ⟨rfl,rfl⟩) | (go_at_call 71;refine (reflegal_any _ _ hnm (ResTab.below HR.out ((Below.refl _ _).alloc (Nat.le_refl _) _) h1 h1)).mono ?_;rintro e w' ⟨rfl,rfl⟩))
   all_goals go_ret
   all_goals refine ⟨ret_bool ?_,?_⟩
   all_goals first
    | exact (Below.refl _ _).alloc (Nat.le_refl _) _
    | exact ((Below.refl _ _).alloc (Nat.le_refl _) _).alloc (by simp) _
    | (rw [HE.out];simp_all;done)
    | (rw [HE.out];simp_all [ByteArray.toList_eq];done)
    | (rw [HE.out];simp_all <;> intros <;> omega)
    | (rw [HE.out];simp_all [ByteArray.toList_eq] <;> intros <;> omega)
 · have g1:(kk == -2)=false:=by simp;omega
   have g2:¬ kk=-2:=by omega
   have g3:¬ kk=-1:=by omega
   by_cases hl:(kl:Int)=kk
   · have l1:((kl:Int) != kk)=false:=by simpa using hl
     have HL:=Lib.hid hl
     clear hl
     go_enter Tryz.func56,Tryz.ntmps56
     go_wp2_with (first | (go_at_call 70;refine (kidsof_any _ _).mono ?_;rintro e w' ⟨rfl,rfl⟩) | (go_at_call 71;refine (reflegal_any _ _ hnm (ResTab.below HR.out ((Below.refl _ _).alloc (Nat.le_refl _) _) h1 h1)).mono ?_;rintro e w' ⟨rfl,rfl⟩))
     all_goals go_ret
     all_goals refine ⟨ret_bool ?_,?_⟩
     all_goals first
      | exact (Below.refl _ _).alloc (Nat.le_refl _) _
      | exact ((Below.refl _ _).alloc (Nat.le_refl _) _).alloc (by simp) _
      | (rw [HE.out];have hl:=HL.out;simp_all [ByteArray.toList_eq];done)
      | (rw [HE.out];have hl:=HL.out;simp_all <;> intros <;> omega)
      | (rw [HE.out];have hl:=HL.out;simp_all [ByteArray.toList_eq] <;> intros <;> omega)
   · have l1:((kl:Int) != kk)=true:=by simpa using hl
     go_enter Tryz.func56,Tryz.ntmps56
     go_wp2_with (first | (go_at_call 70;refine (kidsof_any _ _).mono ?_;rintro e w' ⟨rfl,rfl⟩) | (go_at_call 71;refine (reflegal_any _ _ hnm (ResTab.below HR.out ((Below.refl _ _).alloc (Nat.le_refl _) _) h1 h1)).mono ?_;rintro e w' ⟨rfl,rfl⟩))
     all_goals go_ret
     all_goals exact ⟨ret_bool (by rw [HE.out];simp [g2,g3,hl]),(Below.refl _ _).alloc (Nat.le_refl _) _⟩
theorem ref9right_any (op:Int) (w:World) (nm:ByteArray) (vk vn:Int) (vt:ByteArray) (sa:Option Addr) (sl sc:Nat) (ka:Option Addr) (kl kc:Nat) (hnm:nm.size≤maxLen) (hr:ResTab w 0) (h1:0 < w.heap.size) :
 Calls Tryz.prog 56 #[.agg (nodeV op nm vk vn vt sa sl sc ka kl kc)] w fun e w'=>e=.returned (.bool (rightB op nm.data.toList vk vn vt.data.toList sl kl))∧Below w.heap.size w w':=by
 by_cases h:op=1∨op=2∨op=3∨op=5∨op=24∨op=25∨op=26
 · rcases h with rfl | rfl | rfl | rfl | rfl | rfl | rfl
   · exact rr1 w nm vk vn vt sa sl sc ka kl kc hnm hr h1
   · exact rr2 w nm vk vn vt sa sl sc ka kl kc hnm hr h1
   · exact rr3 w nm vk vn vt sa sl sc ka kl kc hnm hr h1
   · exact rr5 w nm vk vn vt sa sl sc ka kl kc hnm hr h1
   · exact rr24 w nm vk vn vt sa sl sc ka kl kc hnm hr h1
   · exact rr25 w nm vk vn vt sa sl sc ka kl kc hnm hr h1
   · exact rr26 w nm vk vn vt sa sl sc ka kl kc hnm hr h1
 · exact rrrest op (by omega) w nm vk vn vt sa sl sc ka kl kc hnm hr h1
end Go.Proofs.YtcnckjlmldnblaaGreatDoor
