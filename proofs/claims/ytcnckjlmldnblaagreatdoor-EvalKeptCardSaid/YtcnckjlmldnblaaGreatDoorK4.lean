import Derived.Test.YtcnckjlmldnblaaGreatDoorK1
namespace Go.Proofs.YtcnckjlmldnblaaGreatDoor
open Go Go.RowKit
set_option maxRecDepth 100000
set_option maxHeartbeats 2000000
set_option linter.unusedVariables false
/-- How many kids a node of an operator has; -1: any number; -2: it is none. -/
def kidsN (op:Int):Int :=
 if op < 1∨34≤op then -2 else if op=6 then -1 else if op=23 then 3 else if op=7∨op=8∨op=27 then 1
 else if op≤5∨op=24∨op=25∨op=26∨op=29∨op=30 then 0 else 2
def namedB (op:Int):Bool:=decide (op=5∨op=24∨op=25∨op=26)
def valB (op vk vn:Int) (vt:List UInt8):Bool :=
 if op=1 then decide (vk=1) && decide (0≤vn) && vt.isEmpty else if op=2 then decide (vk=2) && decide (vn=0∨vn=1) && vt.isEmpty
 else if op=3 then decide (vk=3) && decide (vn=0) else decide (vk=0) && decide (vn=0) && vt.isEmpty
/-- Is a node right by itself? -/
def rightB (op:Int) (nm:List UInt8) (vk vn:Int) (vt:List UInt8) (sl kl:Nat):Bool :=
 !decide (kidsN op=-2) && (decide (kidsN op=-1) || decide ((kl:Int)=kidsN op)) && (if namedB op then legalB nm else nm.isEmpty) && decide (sl=0) && valB op vk vn vt
def midB (K N:Int) (T:List UInt8) (kids:Int) (named:Bool) (nm:List UInt8) (vk vn:Int) (vt:List UInt8) (sl kl:Nat):Bool :=
 decide (vk=K) && decide (vn=N) && (vt == T) && decide (sl=0) && decide ((kl:Int)=kids) && (if named then legalB nm else nm.isEmpty)
theorem ResTab.below {w w':World} {B g:Nat} (h:ResTab w g) (hb:Below B w w') (hB:g < w.heap.size) (hgB:g < B:=by assumption):ResTab w' g:=fun j hj=>by
 rw [hb.cell (p:=⟨g,j,none⟩) hgB];exact h j hj
theorem and1 (x:Int):bits .and .i64 x 1=0∨bits .and .i64 x 1=1:=by
 have h:(BitVec.ofInt 64 x &&& BitVec.ofInt 64 1).toNat≤1:=by
  rw [BitVec.toNat_and]
  exact Nat.and_le_right
 have e:∀ n:Nat,n≤1→IntKind.i64.wrap (n:Int)=0∨IntKind.i64.wrap (n:Int)=1:=by
  intro n hn
  have:n=0∨n=1:=by omega
  rcases this with rfl | rfl <;> decide
 simp only [bits,IntKind.bits]
 exact e _ h
theorem and1_iff (x:Int):x=bits .and .i64 x 1 ↔ x=0∨x=1:=by
 constructor
 · intro h
   rcases and1 x with e | e <;> rw [e] at h <;> omega
 · rintro (rfl | rfl) <;> decide
theorem mid2 (nm:List UInt8) (vk vn:Int) (vt:List UInt8) (sl kl:Nat):rightB 2 nm vk vn vt sl kl=midB 2 (bits .and .i64 vn 1) [] 0 false nm vk vn vt sl kl:=by
 have h:=and1_iff vn
 rw [Bool.eq_iff_iff]
 simp only [rightB,midB,kidsN,namedB,valB]
 simp
 grind
theorem right_any (w:World) (op:Int) (nm:ByteArray) (vk vn:Int) (vt:ByteArray) (sa:Option Addr) (sl sc:Nat) (ka:Option Addr) (kl kc:Nat) (hnm:nm.size≤maxLen) (hr:ResTab w 1)
 (hvn:-9223372036854775808≤vn∧vn≤9223372036854775807) (h0:1 < w.heap.size) :
 Calls Tryz.prog 46 #[.agg #[.int .i64 op,.string nm,.int .i64 vk,.int .i64 vn,.string vt,.slice sa sl sc,.slice ka kl kc]] w fun e w'=>e=.returned (.bool (rightB op nm.data.toList vk vn vt.data.toList sl kl))∧Below w.heap.size w w':=by
 have HR:=Lib.hid hr
 have HV:=Lib.hid hvn
 clear hr hvn
 by_cases hout:op < 1∨34≤op
 · have e:rightB op nm.data.toList vk vn vt.data.toList sl kl=false:=by
    have:kidsN op=-2:=by simp only [kidsN];rw [if_pos hout]
    simp [rightB,this]
   have HE:=Lib.hid e
   clear e
   have hne:∀ k:Int,1≤k→k < 34→(op == k)=false:=fun k h1 h2=>by simp;omega
   have f1:=hne 1 (by omega) (by omega)
   have f2:=hne 2 (by omega) (by omega)
   have f3:=hne 3 (by omega) (by omega)
   have f4:=hne 4 (by omega) (by omega)
   have f29:=hne 29 (by omega) (by omega)
   have f30:=hne 30 (by omega) (by omega)
   have f5:=hne 5 (by omega) (by omega)
   have f24:=hne 24 (by omega) (by omega)
   have f25:=hne 25 (by omega) (by omega)
   have f26:=hne 26 (by omega) (by omega)
   have f6:=hne 6 (by omega) (by omega)
   have f7:=hne 7 (by omega) (by omega)
   have f8:=hne 8 (by omega) (by omega)
   have f27:=hne 27 (by omega) (by omega)
   have f23:=hne 23 (by omega) (by omega)
   clear hne
   rcases hout with h | h
   all_goals
    have h':op < 1∨¬ op < 1:=by omega
    go_enter Tryz.func46,Tryz.ntmps46
    go_wp2
    go_ret
    exact ⟨ret_bool HE.out.symm,((Below.refl _ _).alloc (Nat.le_refl _) _).alloc (by simp) _⟩
 · go_enter Tryz.func46,Tryz.ntmps46
   go_upto_block 0 with (fail)
   go_cut [3,4] (fun s3 s4 wx=>∃ (K N:Int) (T:ByteArray) (kids:Int) (named:Bool),s3=.int .i64 kids∧s4=.bool named∧rightB op nm.data.toList vk vn vt.data.toList sl kl=midB K N T.data.toList kids named nm.data.toList vk vn vt.data.toList sl kl ∧
    wx=(w.alloc (.cells #[.int .i64 op,.string nm,.int .i64 vk,.int .i64 vn,.string vt,.slice sa sl sc,.slice ka kl kc] 56)).alloc (.cells #[.int .i64 K,.int .i64 N,.string T,.slice none 0 0] 43))
   case first =>
    have hcl:op=1∨op=2∨op=3∨op=4∨op=29∨op=30∨op=5∨op=24∨op=25∨op=26∨op=6∨op=7∨op=8∨op=27∨op=23∨op=9∨op=10∨op=11∨op=12∨op=13∨op=14∨op=15∨op=16∨op=17∨op=18∨op=19∨op=20∨op=21∨op=22∨op=28∨op=31∨op=32∨op=33:=by omega
    clear hout
    rcases hcl with rfl | rfl | rfl | rfl | rfl | rfl | rfl | rfl | rfl | rfl | rfl | rfl | rfl | rfl | rfl | rfl | rfl | rfl | rfl | rfl | rfl | rfl | rfl | rfl | rfl | rfl | rfl | rfl | rfl | rfl | rfl | rfl | rfl
    all_goals
     go_wp2
    all_goals
     go_meet
     refine ⟨_,_,_,_,_,rfl,rfl,?_,rfl⟩
     first
      | exact mid2 _ _ _ _ _ _
      | (rw [Bool.eq_iff_iff];simp [rightB,midB,kidsN,namedB,valB];try grind)
   case rest =>
    obtain ⟨K,N,T,kids,named,rfl,rfl,heq,rfl⟩:=hcut
    have HE:=Lib.hid heq
    clear heq hout
    go_wp2_with (first | (go_at_call 66;refine (legal_any _ _ hnm (ResTab.below HR.out ((((Below.refl _ _).alloc (Nat.le_refl _) _).alloc (by simp) _).alloc (by simp;omega) _) h0)).mono ?_;rintro e w' ⟨rfl,rfl⟩))
    all_goals go_ret
    all_goals refine ⟨ret_bool ?_,(((Below.refl _ _).alloc (Nat.le_refl _) _).alloc (by simp) _).alloc (by simp;omega) _⟩
    all_goals rw [HE.out]
    all_goals simp_all [midB,ByteArray.toList_eq]
end Go.Proofs.YtcnckjlmldnblaaGreatDoor
