import Derived.Test.YtcnckjlmldnblaaGreatDoorE47
import Derived.Test.YtcnckjlmldnblaaGreatDoorE4
import Derived.BigGuardPart
namespace Go.Proofs.YtcnckjlmldnblaaGreatDoor
open Go Go.RowKit
set_option maxRecDepth 100000
set_option maxHeartbeats 4000000
set_option linter.unusedVariables false
set_option linter.unusedSimpArgs false
theorem in_any (w:World) (a:Option Addr) (n c:Nat) (l:List ByteArray) (hl:RS 1 Sv w a n c l) (x:ByteArray) :
 Calls Tryz.prog 61 #[.slice a n c,.string x] w fun e w'=>e=.returned (.bool (inSS l x))∧w'=w:=by
 have HL:=Lib.hid hl
 have HLN:=Lib.hid hl.1
 have hn48:=hl.2.2.1
 clear hl
 go_enter Tryz.func61,Tryz.ntmps61
 go_wp2_with fail
 go_loop [5] (fun i=>∃ k:Nat,k≤n∧i=.int .i64 k∧∀ (j:Nat) (y:ByteArray),j < k→l[j]?=some y→(y.toList == x.toList)=false) (fun i=>n - (intOf i).toNat)
 case atStart=>exact ⟨0,by omega,rfl,fun j y h=>by omega⟩
 case round =>
  obtain ⟨k,hk,rfl,hne⟩:=hrel
  have HNE:=Lib.hid hne
  clear hne
  by_cases hlt:k < n
  · have hltI:(k:Int) < (n:Int):=by omega
    obtain ⟨b,o,y,rfl,hy,hcl⟩:=HL.out.at hlt
    have c0:=hcl 0 _ rfl
    simp only [Nat.add_zero,Nat.mul_one] at c0
    have HY:=Lib.hid hy
    clear hy hcl
    cases hm:(y.toList == x.toList)
    · have HM:=Lib.hid hm
      go_wp2_with fail
      go_round
      case rel=>exact ⟨k+1,by omega,by go_num,fun j z hj hz=>by
       by_cases e:j=k
       · subst e
         rw [HY.out] at hz
         cases hz
         exact HM.out
       · exact HNE.out j z (by omega) hz⟩
      case measure=>simp [intOf];omega
    · have HS:=Lib.hid (show inSS l x=true by
       unfold inSS
       exact List.any_eq_true.2 ⟨y,List.mem_of_getElem? HY.out,hm⟩)
      go_wp2_with fail
      go_ret
      exact ⟨ret_bool HS.out.symm,rfl⟩
  · have hltI:¬ (k:Int) < (n:Int):=by omega
    have HS:=Lib.hid (show inSS l x=false by
     unfold inSS
     rw [List.any_eq_false]
     intro y hy
     obtain ⟨j,hj⟩:=List.getElem?_of_mem hy
     have:=HNE.out j y (by have:=(List.getElem?_eq_some_iff.1 hj).1;have:=HLN.out;omega) hj
     simpa using this)
    go_wp2_with fail
    go_ret
    exact ⟨ret_bool HS.out.symm,rfl⟩
end Go.Proofs.YtcnckjlmldnblaaGreatDoor
