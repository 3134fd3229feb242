import Derived.Deep.RegionHeld3
import Derived.OrdersHeld
import Derived.Test.YtgkehahklccacaaGreatDoorC02
import Derived.BigRegion
import Derived.BigQuiet
import Derived.StillTailTactics
import Derived.IntWalk
namespace Go.Proofs.YtgkehahklccacaaGreatDoor
open Go Go.RowKit
open Go.Lib (hid)
set_option maxRecDepth 100000
set_option maxHeartbeats 1000000
set_option linter.unusedVariables false
set_option linter.unusedSimpArgs false
section
open Go
section
variable {P : Program} {ops : Array Oper} {Q : Exit → Act → World → Prop} {md : Region.Mode} {S : World → Prop}
theorem wpT (i:Nat) {oi:Oper} {v:Value} {fuel:Nat} {listed l':Array Bool} {a a':Act} {w:World} (hi:ops[i]?=some oi:=by rfl)
 (hs:Region.noSelect ops=true:=by kernel_rfl) (hf:Region.free md ops listed i=true:=by kernel_rfl) (hr:(Region.ready md ops listed).contains i=true:=by kernel_rfl)
 (hQ:∀ c a w,Q (.panic c) (a.put oi.dst v) w→Q (.panic c) a w:=by exact fun _ _ _ h=>h) (hw:Region.wanted oi (yielded ops a.tmps)=true:=by rfl) (hv:∀ w,S w→(execOp a.eval oi).run P w=.ok (.value v) w:=by (intro w hSw;(try dsimp only at hSw);go_simp;all_goals (first | done | with_reducible rfl))) (hS:S w:=by assumption)
 (hl:listed.setIfInBounds i true=l':=by ((try simp only [List.setIfInBounds_toArray,List.set_cons_zero,List.set_cons_succ]);all_goals (first | done | rfl))) (ha:a.put oi.dst v=a':=by (simp only [Act.put,List.setIfInBounds_toArray,List.set_cons_zero,List.set_cons_succ,List.getElem_toArray,List.getElem_cons_succ,List.getElem_cons_zero];all_goals (first | done | rfl)))
 (h:wpAnyH P md ops Q S fuel l' a' w):wpAnyH P md ops Q S (fuel+1) listed a w:=by
 subst hl ha
 exact wpAnyH_take hi hs hf hr hQ (Or.inl ⟨hw,hv⟩) hS h
theorem wpL (i:Nat) (v:Value) {oi:Oper} {fuel:Nat} {listed l':Array Bool} {a a':Act} {w:World} (hv:∀ w,S w→(execOp a.eval oi).run P w=.ok (.value v) w) (hi:ops[i]?=some oi:=by rfl)
 (hs:Region.noSelect ops=true:=by kernel_rfl) (hf:Region.free md ops listed i=true:=by kernel_rfl) (hr:(Region.ready md ops listed).contains i=true:=by kernel_rfl)
 (hQ:∀ c a w,Q (.panic c) (a.put oi.dst v) w→Q (.panic c) a w:=by exact fun _ _ _ h=>h) (hw:Region.wanted oi (yielded ops a.tmps)=true:=by rfl) (hS:S w:=by assumption)
 (hl:listed.setIfInBounds i true=l':=by ((try simp only [List.setIfInBounds_toArray,List.set_cons_zero,List.set_cons_succ]);all_goals (first | done | rfl))) (ha:a.put oi.dst v=a':=by (simp only [Act.put,List.setIfInBounds_toArray,List.set_cons_zero,List.set_cons_succ,List.getElem_toArray,List.getElem_cons_succ,List.getElem_cons_zero];all_goals (first | done | rfl)))
 (h:wpAnyH P md ops Q S fuel l' a' w):wpAnyH P md ops Q S (fuel+1) listed a w:=by
 subst hl ha
 exact wpAnyH_take hi hs hf hr hQ (Or.inl ⟨hw,hv⟩) hS h
theorem wpR (i:Nat) {o:Oper} {fuel:Nat} {listed:Array Bool} {a:Act} {w:World} (hr:Region.ready md ops listed=[i]:=by kernel_rfl) (ho:ops[i]?=some o:=by rfl)
 (h:∀ K':Act→World→Prop,Shut (∀ a w,S w→(S w→wpAnyH P md ops Q S fuel (listed.setIfInBounds i true) a w)→K' a w)→if Region.wanted o (yielded ops a.tmps)=true then Oper.wp P o a w K' Q else K' (a.put o.dst undef) w):wpAnyH P md ops Q S (fuel+1) listed a w :=
 wpAnyH_ready hr (by simp) (AllReadyH.cons ho h AllReadyH.nil)
theorem bk {K':Act→World→Prop} {fuel:Nat} {listed l':Array Bool} {a a':Act} {w:World} (hK:Shut (∀ a w,S w→(S w→wpAnyH P md ops Q S fuel listed a w)→K' a w)) (hS:S w)
 (hl:listed=l':=by ((try simp only [List.setIfInBounds_toArray,List.set_cons_zero,List.set_cons_succ]);all_goals (first | done | rfl))) (ha:a=a':=by ((try simp only [Act.put,List.setIfInBounds_toArray,List.set_cons_zero,List.set_cons_succ,List.getElem_toArray,List.getElem_cons_succ,List.getElem_cons_zero]);all_goals (first | done | rfl)))
 (h:S w→wpAnyH P md ops Q S fuel l' a' w):K' a w:=by
 subst hl ha
 exact hK.out _ _ hS h
theorem put_defers (a:Act) (d:Option Tmp) (v:Value):(a.put d v).defers=a.defers:=by cases d <;> rfl
theorem wpTR {R:Exit→Act→World→Prop} (hR:∀ c a a' w,R (.panic c) a w→a.defers=a'.defers→R (.panic c) a' w) (i:Nat) {oi:Oper} {v:Value} {fuel:Nat} {listed l':Array Bool} {a a':Act} {w:World} (hi:ops[i]?=some oi:=by rfl) (hs:Region.noSelect ops=true:=by kernel_rfl) (hf:Region.free md ops listed i=true:=by kernel_rfl) (hr:(Region.ready md ops listed).contains i=true:=by kernel_rfl) (hw:Region.wanted oi (yielded ops a.tmps)=true:=by rfl) (hQ:∀ c a w,Q (.panic c) a w=R (.panic c) a w:=by exact fun _ _ _=>rfl) (hv:∀ w,S w→(execOp a.eval oi).run P w=.ok (.value v) w:=by (intro w hSw;(try dsimp only at hSw);go_simp;all_goals (first | done | with_reducible rfl))) (hS:S w:=by assumption)
 (hl:listed.setIfInBounds i true=l':=by ((try simp only [List.setIfInBounds_toArray,List.set_cons_zero,List.set_cons_succ]);all_goals (first | done | rfl))) (ha:a.put oi.dst v=a':=by (simp only [Act.put,List.setIfInBounds_toArray,List.set_cons_zero,List.set_cons_succ,List.getElem_toArray,List.getElem_cons_succ,List.getElem_cons_zero];all_goals (first | done | rfl)))
 (h:wpAnyH P md ops Q S fuel l' a' w):wpAnyH P md ops Q S (fuel+1) listed a w:=by
 subst hl ha
 exact wpAnyH_take hi hs hf hr (fun c a w h=>by rw [hQ] at h ⊢;exact hR c _ _ w h (put_defers _ _ _)) (Or.inl ⟨hw,hv⟩) hS h
theorem wpLR {R:Exit→Act→World→Prop} (hR:∀ c a a' w,R (.panic c) a w→a.defers=a'.defers→R (.panic c) a' w) (i:Nat) (v:Value) {oi:Oper} {fuel:Nat} {listed l':Array Bool} {a a':Act} {w:World} (hv:∀ w,S w→(execOp a.eval oi).run P w=.ok (.value v) w) (hi:ops[i]?=some oi:=by rfl) (hs:Region.noSelect ops=true:=by kernel_rfl) (hf:Region.free md ops listed i=true:=by kernel_rfl) (hr:(Region.ready md ops listed).contains i=true:=by kernel_rfl) (hw:Region.wanted oi (yielded ops a.tmps)=true:=by rfl) (hQ:∀ c a w,Q (.panic c) a w=R (.panic c) a w:=by exact fun _ _ _=>rfl) (hS:S w:=by assumption)
 (hl:listed.setIfInBounds i true=l':=by ((try simp only [List.setIfInBounds_toArray,List.set_cons_zero,List.set_cons_succ]);all_goals (first | done | rfl))) (ha:a.put oi.dst v=a':=by (simp only [Act.put,List.setIfInBounds_toArray,List.set_cons_zero,List.set_cons_succ,List.getElem_toArray,List.getElem_cons_succ,List.getElem_cons_zero];all_goals (first | done | rfl)))
 (h:wpAnyH P md ops Q S fuel l' a' w):wpAnyH P md ops Q S (fuel+1) listed a w:=by
 subst hl ha
 exact wpAnyH_take hi hs hf hr (fun c a w h=>by rw [hQ] at h ⊢;exact hR c _ _ w h (put_defers _ _ _)) (Or.inl ⟨hw,hv⟩) hS h
theorem wpUR {R:Exit→Act→World→Prop} (hR:∀ c a a' w,R (.panic c) a w→a.defers=a'.defers→R (.panic c) a' w) (i:Nat) {oi:Oper} {fuel:Nat} {listed l':Array Bool} {a a':Act} {w:World} (hi:ops[i]?=some oi:=by rfl) (hs:Region.noSelect ops=true:=by kernel_rfl) (hf:Region.free md ops listed i=true:=by kernel_rfl) (hr:(Region.ready md ops listed).contains i=true:=by kernel_rfl) (hw:Region.wanted oi (yielded ops a.tmps)=false:=by rfl) (hQ:∀ c a w,Q (.panic c) a w=R (.panic c) a w:=by exact fun _ _ _=>rfl) (hS:S w:=by assumption)
 (hl:listed.setIfInBounds i true=l':=by ((try simp only [List.setIfInBounds_toArray,List.set_cons_zero,List.set_cons_succ]);all_goals (first | done | rfl))) (ha:a.put oi.dst undef=a':=by (simp only [Act.put,List.setIfInBounds_toArray,List.set_cons_zero,List.set_cons_succ,List.getElem_toArray,List.getElem_cons_succ,List.getElem_cons_zero];all_goals (first | done | rfl)))
 (h:wpAnyH P md ops Q S fuel l' a' w):wpAnyH P md ops Q S (fuel+1) listed a w:=by
 subst hl ha
 exact wpAnyH_take hi hs hf hr (fun c a w h=>by rw [hQ] at h ⊢;exact hR c _ _ w h (put_defers _ _ _)) (Or.inr ⟨hw,rfl⟩) hS h
end
end
section
def shr (n:Nat) (x:UInt32):UInt32:=UInt32.ofNat (x.toNat / 2 ^ n)
def shl (n:Nat) (x:UInt32):UInt32:=UInt32.ofNat (x.toNat * 2 ^ n)
def orw (x y:UInt32):UInt32:=x ||| y
def anw (x y:UInt32):UInt32:=x &&& y
def ad (x y:UInt32):UInt32:=x+y
def rot (n:Int) (x:UInt32):UInt32:=orw (shr n.toNat x) (shl (32 - n).toNat x)
theorem shr_u32 (n:Nat) (x:UInt32):((shr n x).toNat:Int)=(x.toNat:Int) / (2 ^ n:Nat):=by
 have h:x.toNat / 2 ^ n < 4294967296:=Nat.lt_of_le_of_lt (Nat.div_le_self _ _) x.toNat_lt
 unfold shr
 rw [UInt32.toNat_ofNat_of_lt' h];push_cast;rfl
theorem shl_u32 (n:Nat) (x:UInt32):((shl n x).toNat:Int)=(x.toNat:Int) * (2 ^ n:Nat) % 4294967296:=by
 unfold shl
 rw [UInt32.toNat_ofNat',Int.natCast_emod,Int.natCast_mul];rfl
@[go_sem] theorem or_u32 (x y:UInt32):bits .or .u32 (x.toNat:Int) (y.toNat:Int)=((orw x y).toNat:Int):=by
  simp only [bits,IntKind.bits,ofInt32]
  rw [wrap_u32_nat (BitVec.isLt _)];rfl
@[go_sem] theorem and_u32 (x y:UInt32):bits .and .u32 (x.toNat:Int) (y.toNat:Int)=((anw x y).toNat:Int):=by
  simp only [bits,IntKind.bits,ofInt32]
  rw [wrap_u32_nat (BitVec.isLt _)];rfl
@[go_sem] theorem add_u32 (x y:UInt32):((x.toNat:Int)+(y.toNat:Int)) % 4294967296=((ad x y).toNat:Int):=by
  unfold ad
  rw [UInt32.toNat_add,Int.natCast_emod,Int.natCast_add];rfl
theorem turn_2 (w:World) (x:UInt32):Calls Tryz.prog 253 #[.int .u32 (x.toNat:Int),.int .i64 2] w fun e w'=>e=.returned (.int .u32 ((rot 2 x).toNat:Int))∧∃ n,w'=w.drewN n:=by
 have h1:(x.toNat:Int) / 4=((shr 2 x).toNat:Int):=(shr_u32 2 x).symm
 have h2:(x.toNat:Int) * 1073741824 % 4294967296=((shl 30 x).toNat:Int):=(shl_u32 30 x).symm
 go_enter Tryz.func253,Tryz.ntmps253
 go_wp2
 go_quiet (fail)
 go_wp2
 go_ret
 exact ⟨rfl,_,rfl⟩
theorem turn_6 (w:World) (x:UInt32):Calls Tryz.prog 253 #[.int .u32 (x.toNat:Int),.int .i64 6] w fun e w'=>e=.returned (.int .u32 ((rot 6 x).toNat:Int))∧∃ n,w'=w.drewN n:=by
 have h1:(x.toNat:Int) / 64=((shr 6 x).toNat:Int):=(shr_u32 6 x).symm
 have h2:(x.toNat:Int) * 67108864 % 4294967296=((shl 26 x).toNat:Int):=(shl_u32 26 x).symm
 go_enter Tryz.func253,Tryz.ntmps253
 go_wp2
 go_quiet (fail)
 go_wp2
 go_ret
 exact ⟨rfl,_,rfl⟩
theorem turn_7 (w:World) (x:UInt32):Calls Tryz.prog 253 #[.int .u32 (x.toNat:Int),.int .i64 7] w fun e w'=>e=.returned (.int .u32 ((rot 7 x).toNat:Int))∧∃ n,w'=w.drewN n:=by
 have h1:(x.toNat:Int) / 128=((shr 7 x).toNat:Int):=(shr_u32 7 x).symm
 have h2:(x.toNat:Int) * 33554432 % 4294967296=((shl 25 x).toNat:Int):=(shl_u32 25 x).symm
 go_enter Tryz.func253,Tryz.ntmps253
 go_wp2
 go_quiet (fail)
 go_wp2
 go_ret
 exact ⟨rfl,_,rfl⟩
theorem turn_11 (w:World) (x:UInt32):Calls Tryz.prog 253 #[.int .u32 (x.toNat:Int),.int .i64 11] w fun e w'=>e=.returned (.int .u32 ((rot 11 x).toNat:Int))∧∃ n,w'=w.drewN n:=by
 have h1:(x.toNat:Int) / 2048=((shr 11 x).toNat:Int):=(shr_u32 11 x).symm
 have h2:(x.toNat:Int) * 2097152 % 4294967296=((shl 21 x).toNat:Int):=(shl_u32 21 x).symm
 go_enter Tryz.func253,Tryz.ntmps253
 go_wp2
 go_quiet (fail)
 go_wp2
 go_ret
 exact ⟨rfl,_,rfl⟩
theorem turn_13 (w:World) (x:UInt32):Calls Tryz.prog 253 #[.int .u32 (x.toNat:Int),.int .i64 13] w fun e w'=>e=.returned (.int .u32 ((rot 13 x).toNat:Int))∧∃ n,w'=w.drewN n:=by
 have h1:(x.toNat:Int) / 8192=((shr 13 x).toNat:Int):=(shr_u32 13 x).symm
 have h2:(x.toNat:Int) * 524288 % 4294967296=((shl 19 x).toNat:Int):=(shl_u32 19 x).symm
 go_enter Tryz.func253,Tryz.ntmps253
 go_wp2
 go_quiet (fail)
 go_wp2
 go_ret
 exact ⟨rfl,_,rfl⟩
theorem turn_17 (w:World) (x:UInt32):Calls Tryz.prog 253 #[.int .u32 (x.toNat:Int),.int .i64 17] w fun e w'=>e=.returned (.int .u32 ((rot 17 x).toNat:Int))∧∃ n,w'=w.drewN n:=by
 have h1:(x.toNat:Int) / 131072=((shr 17 x).toNat:Int):=(shr_u32 17 x).symm
 have h2:(x.toNat:Int) * 32768 % 4294967296=((shl 15 x).toNat:Int):=(shl_u32 15 x).symm
 go_enter Tryz.func253,Tryz.ntmps253
 go_wp2
 go_quiet (fail)
 go_wp2
 go_ret
 exact ⟨rfl,_,rfl⟩
theorem turn_18 (w:World) (x:UInt32):Calls Tryz.prog 253 #[.int .u32 (x.toNat:Int),.int .i64 18] w fun e w'=>e=.returned (.int .u32 ((rot 18 x).toNat:Int))∧∃ n,w'=w.drewN n:=by
 have h1:(x.toNat:Int) / 262144=((shr 18 x).toNat:Int):=(shr_u32 18 x).symm
 have h2:(x.toNat:Int) * 16384 % 4294967296=((shl 14 x).toNat:Int):=(shl_u32 14 x).symm
 go_enter Tryz.func253,Tryz.ntmps253
 go_wp2
 go_quiet (fail)
 go_wp2
 go_ret
 exact ⟨rfl,_,rfl⟩
theorem turn_19 (w:World) (x:UInt32):Calls Tryz.prog 253 #[.int .u32 (x.toNat:Int),.int .i64 19] w fun e w'=>e=.returned (.int .u32 ((rot 19 x).toNat:Int))∧∃ n,w'=w.drewN n:=by
 have h1:(x.toNat:Int) / 524288=((shr 19 x).toNat:Int):=(shr_u32 19 x).symm
 have h2:(x.toNat:Int) * 8192 % 4294967296=((shl 13 x).toNat:Int):=(shl_u32 13 x).symm
 go_enter Tryz.func253,Tryz.ntmps253
 go_wp2
 go_quiet (fail)
 go_wp2
 go_ret
 exact ⟨rfl,_,rfl⟩
theorem turn_22 (w:World) (x:UInt32):Calls Tryz.prog 253 #[.int .u32 (x.toNat:Int),.int .i64 22] w fun e w'=>e=.returned (.int .u32 ((rot 22 x).toNat:Int))∧∃ n,w'=w.drewN n:=by
 have h1:(x.toNat:Int) / 4194304=((shr 22 x).toNat:Int):=(shr_u32 22 x).symm
 have h2:(x.toNat:Int) * 1024 % 4294967296=((shl 10 x).toNat:Int):=(shl_u32 10 x).symm
 go_enter Tryz.func253,Tryz.ntmps253
 go_wp2
 go_quiet (fail)
 go_wp2
 go_ret
 exact ⟨rfl,_,rfl⟩
theorem turn_25 (w:World) (x:UInt32):Calls Tryz.prog 253 #[.int .u32 (x.toNat:Int),.int .i64 25] w fun e w'=>e=.returned (.int .u32 ((rot 25 x).toNat:Int))∧∃ n,w'=w.drewN n:=by
 have h1:(x.toNat:Int) / 33554432=((shr 25 x).toNat:Int):=(shr_u32 25 x).symm
 have h2:(x.toNat:Int) * 128 % 4294967296=((shl 7 x).toNat:Int):=(shl_u32 7 x).symm
 go_enter Tryz.func253,Tryz.ntmps253
 go_wp2
 go_quiet (fail)
 go_wp2
 go_ret
 exact ⟨rfl,_,rfl⟩
theorem turn_any (w:World) (x:UInt32) (n:Int) (hn:n ∈ [(2:Int),6,7,11,13,17,18,19,22,25]):Calls Tryz.prog 253 #[.int .u32 (x.toNat:Int),.int .i64 n] w fun e w'=>e=.returned (.int .u32 ((rot n x).toNat:Int))∧∃ n,w'=w.drewN n:=by
 simp only [List.mem_cons,List.not_mem_nil,or_false] at hn
 rcases hn with rfl | rfl | rfl | rfl | rfl | rfl | rfl | rfl | rfl | rfl
 · exact turn_2 w x
 · exact turn_6 w x
 · exact turn_7 w x
 · exact turn_11 w x
 · exact turn_13 w x
 · exact turn_17 w x
 · exact turn_18 w x
 · exact turn_19 w x
 · exact turn_22 w x
 · exact turn_25 w x
end
section
structure S8 where
 a:UInt32
 b:UInt32
 c:UInt32
 d:UInt32
 e:UInt32
 f:UInt32
 g:UInt32
 h:UInt32
def S8.list (s:S8):List UInt32:=[s.a,s.b,s.c,s.d,s.e,s.f,s.g,s.h]
def roundL:List UInt32:=[0x428a2f98,0x71374491,0xb5c0fbcf,0xe9b5dba5,0x3956c25b,0x59f111f1,0x923f82a4,0xab1c5ed5,
 0xd807aa98,0x12835b01,0x243185be,0x550c7dc3,0x72be5d74,0x80deb1fe,0x9bdc06a7,0xc19bf174,
 0xe49b69c1,0xefbe4786,0x0fc19dc6,0x240ca1cc,0x2de92c6f,0x4a7484aa,0x5cb0a9dc,0x76f988da,
 0x983e5152,0xa831c66d,0xb00327c8,0xbf597fc7,0xc6e00bf3,0xd5a79147,0x06ca6351,0x14292967,
 0x27b70a85,0x2e1b2138,0x4d2c6dfc,0x53380d13,0x650a7354,0x766a0abb,0x81c2c92e,0x92722c85,
 0xa2bfe8a1,0xa81a664b,0xc24b8b70,0xc76c51a3,0xd192e819,0xd6990624,0xf40e3585,0x106aa070,
 0x19a4c116,0x1e376c08,0x2748774c,0x34b0bcb5,0x391c0cb3,0x4ed8aa4a,0x5b9cca4f,0x682e6ff3,
 0x748f82ee,0x78a5636f,0x84c87814,0x8cc70208,0x90befffa,0xa4506ceb,0xbef9a3f7,0xc67178f2]
def kT (i:Nat):UInt32:=roundL.getD i 0
def RoundTab (w:World):Prop:=∀ i,i < 64→w.cell? ⟨3,i,none⟩=some (.int .u32 ((kT i).toNat:Int))
def lo0 (x:UInt32):UInt32:=xr (xr (rot 7 x) (rot 18 x)) (shr 3 x)
def lo1 (x:UInt32):UInt32:=xr (xr (rot 17 x) (rot 19 x)) (shr 10 x)
def up1 (x:UInt32):UInt32:=xr (xr (rot 6 x) (rot 11 x)) (rot 25 x)
def up0 (x:UInt32):UInt32:=xr (xr (rot 2 x) (rot 13 x)) (rot 22 x)
def chw (e f g:UInt32):UInt32:=xr (anw e f) (anw (nt e) g)
def maj (a b c:UInt32):UInt32:=xr (xr (anw a b) (anw a c)) (anw b c)
def rnd (k w:UInt32) (s:S8):S8 :=
 ⟨ad (ad (ad (ad (ad s.h (up1 s.e)) (chw s.e s.f s.g)) k) w) (ad (up0 s.a) (maj s.a s.b s.c)),s.a,s.b,s.c,ad s.d (ad (ad (ad (ad s.h (up1 s.e)) (chw s.e s.f s.g)) k) w),s.e,s.f,s.g⟩
def wordAt (p:List UInt8) (t:Nat):UInt32:=orw (orw (orw (shl 24 (p.getD (4 * t) 0).toUInt32) (shl 16 (p.getD (4 * t+1) 0).toUInt32)) (shl 8 (p.getD (4 * t+2) 0).toUInt32)) (p.getD (4 * t+3) 0).toUInt32
def sched (p:List UInt8):Nat→List UInt32
 | 0=>(List.range 16).map (wordAt p)
 | n+1=>sched p n++[ad (ad (ad ((sched p n).getD n 0) (lo0 ((sched p n).getD (n+1) 0))) ((sched p n).getD (n+9) 0)) (lo1 ((sched p n).getD (n+14) 0))]
def wT (p:List UInt8) (i:Nat):UInt32:=(sched p 48).getD i 0
theorem sched_len (p:List UInt8):∀ n,(sched p n).length=16+n
 | 0=>by simp [sched]
 | n+1=>by rw [sched,List.length_append,sched_len p n];rfl
theorem sched_pre (p:List UInt8) (i:Nat):∀ n m,i < 16+n→(sched p (n+m)).getD i 0=(sched p n).getD i 0
 | n,0,_=>rfl
 | n,m+1,h=>by
   show (sched p (n+m)++[_]).getD i 0=_
   rw [List.getD_eq_getElem?_getD,List.getElem?_append_left (by rw [sched_len];omega),← List.getD_eq_getElem?_getD,sched_pre p i n m h]
theorem wT_low (p:List UInt8) (t:Nat) (h:t < 16):wT p t=wordAt p t:=by
 unfold wT
 rw [show (48:Nat)=0+48 from rfl,sched_pre p t 0 48 (by omega),sched,List.getD_eq_getElem?_getD,List.getElem?_map,List.getElem?_range h];rfl
theorem wT_high (p:List UInt8) (t:Nat) (h0:16≤t) (h:t < 64):ad (ad (ad (wT p (t - 16)) (lo0 (wT p (t - 15)))) (wT p (t - 7))) (lo1 (wT p (t - 2)))=wT p t:=by
 obtain ⟨n,rfl⟩:∃ n,t=n+16:=⟨t - 16,by omega⟩
 have hs:∀ i,i < 16+n→wT p i=(sched p n).getD i 0:=fun i hi=>by
  unfold wT
  rw [show (48:Nat)=n+(48 - n) by omega,sched_pre p i n _ hi]
 have h1:wT p (n+16)=(sched p (n+1)).getD (n+16) 0:=by
  unfold wT
  rw [show (48:Nat)=(n+1)+(47 - n) by omega,sched_pre p _ (n+1) _ (by omega)]
 rw [h1,sched,List.getD_eq_getElem?_getD,List.getElem?_append_right (by rw [sched_len];omega),sched_len,show n+16 - (16+n)=0 by omega]
 rw [hs _ (by omega),hs _ (by omega),hs _ (by omega),hs _ (by omega),show n+16 - 16=n by omega,show n+16 - 15=n+1 by omega,show n+16 - 7=n+9 by omega,show n+16 - 2=n+14 by omega]
 rfl
def rounds (p:List UInt8) (s:S8):Nat→S8
 | 0=>s
 | t+1=>rnd (kT t) (wT p t) (rounds p s t)
def S8.plus (x y:S8):S8:=⟨ad x.a y.a,ad x.b y.b,ad x.c y.c,ad x.d y.d,ad x.e y.e,ad x.f y.f,ad x.g y.g,ad x.h y.h⟩
def blockS (p:List UInt8) (s:S8):S8:=s.plus (rounds p s 64)
def wv (x:UInt32):Value:=.int .u32 (x.toNat:Int)
def wArr (p:List UInt8) (t:Nat):Array Value:=((List.range 64).map fun i=>wv (if i < t then wT p i else 0)).toArray
theorem wArr_get (p:List UInt8) (t i:Nat) (h:i < 64):(wArr p t)[i]?=some (wv (if i < t then wT p i else 0)):=by
 simp [wArr,h]
theorem wArr_set (p:List UInt8) (t:Nat) (h:t < 64):(wArr p t).setIfInBounds t (wv (wT p t))=wArr p (t+1):=by
 apply Array.ext_getElem?
 intro i
 by_cases hi:i < 64
 · rw [wArr_get _ _ _ hi,Array.getElem?_setIfInBounds]
   by_cases e:t=i
   · subst e;rw [if_pos rfl,if_pos (by simp [wArr];exact h),if_pos (by omega)]
   · rw [if_neg e,wArr_get _ _ _ hi]
     by_cases h2:i < t
     · rw [if_pos h2,if_pos (by omega)]
     · rw [if_neg h2,if_neg (by omega)]
 · rw [Array.getElem?_eq_none (by simp [wArr];omega),Array.getElem?_eq_none (by simp [wArr];omega)]
theorem wArr_zero (p:List UInt8):wArr p 0=Array.replicate 64 (.int .u32 0):=by
 apply Array.ext_getElem?
 intro i
 by_cases hi:i < 64
 · rw [wArr_get _ _ _ hi,Array.getElem?_replicate,if_pos hi,if_neg (by omega)];rfl
 · rw [Array.getElem?_eq_none (by simp [wArr];omega),Array.getElem?_eq_none (by simp;omega)]
@[go_sem] theorem or_u32_u8 (x:UInt32) (c:UInt8):bits .or .u32 (x.toNat:Int) (c.toNat:Int)=((orw x c.toUInt32).toNat:Int):=by
  rw [show (c.toNat:Int)=(c.toUInt32.toNat:Int) by simp];exact or_u32 _ _
theorem shl_u8 (n:Nat) (c:UInt8):(c.toNat:Int) * (2 ^ n:Nat) % 4294967296=((shl n c.toUInt32).toNat:Int):=by
 rw [shl_u32,show (c.toUInt32.toNat:Int)=(c.toNat:Int) by simp]
end
section
def absN:Nat→S8→List UInt8→S8
 | 0,s,_=>s
 | n+1,s,l=>absN n (blockS (l.take 64) s) (l.drop 64)
def absorb (s:S8) (l:List UInt8):S8:=absN (l.length / 64) s l
theorem absN_pre:∀ (n:Nat) (s:S8) (a b:List UInt8),64 * n≤a.length→absN n s (a++b)=absN n s a
 | 0,_,_,_,_=>rfl
 | n+1,s,a,b,h=>by
   show absN n (blockS ((a++b).take 64) s) ((a++b).drop 64)=absN n (blockS (a.take 64) s) (a.drop 64)
   rw [List.take_append_of_le_length (by omega),List.drop_append_of_le_length (by omega)]
   exact absN_pre n _ _ _ (by rw [List.length_drop];omega)
theorem absN_add:∀ (n m:Nat) (s:S8) (a:List UInt8),absN (n+m) s a=absN m (absN n s a) (a.drop (64 * n))
 | 0,m,s,a=>by rw [Nat.zero_add,Nat.mul_zero,List.drop_zero];rfl
 | n+1,m,s,a=>by
   rw [show n+1+m=(n+m)+1 by omega]
   show absN (n+m) (blockS (a.take 64) s) (a.drop 64)=_
   rw [absN_add n m,List.drop_drop,show 64+64 * n=64 * (n+1) by omega];rfl
theorem absorb_append (s:S8) (a b:List UInt8) (h:a.length % 64=0):absorb s (a++b)=absorb (absorb s a) b:=by
 unfold absorb
 have e:(a++b).length / 64=a.length / 64+b.length / 64:=by rw [List.length_append];omega
 rw [e,absN_add,absN_pre _ _ _ _ (by omega),List.drop_append_of_le_length (by omega),List.drop_of_length_le (by omega),List.nil_append]
theorem absorb_block (s:S8) (a:List UInt8) (h:a.length=64):absorb s a=blockS a s:=by
 unfold absorb
 rw [h]
 show blockS (a.take 64) s=_
 rw [List.take_of_length_le (by omega)]
def whole (m:List UInt8):List UInt8:=m.take (m.length / 64 * 64)
def rest (m:List UInt8):List UInt8:=m.drop (m.length / 64 * 64)
theorem whole_rest (m:List UInt8):whole m++rest m=m:=List.take_append_drop _ _
theorem whole_len (m:List UInt8):(whole m).length=m.length / 64 * 64:=by unfold whole;rw [List.length_take];omega
theorem rest_len (m:List UInt8):(rest m).length=m.length % 64:=by unfold rest;rw [List.length_drop];omega
def st0:S8:=⟨0x6a09e667,0xbb67ae85,0x3c6ef372,0xa54ff53a,0x510e527f,0x9b05688c,0x1f83d9ab,0x5be0cd19⟩
def stOf (m:List UInt8):S8:=absorb st0 (whole m)
theorem more_short (m p:List UInt8) (h:m.length % 64+p.length < 64):stOf (m++p)=stOf m∧rest (m++p)=rest m++p:=by
 have e:(m++p).length / 64 * 64=m.length / 64 * 64:=by rw [List.length_append];omega
 unfold stOf whole rest
 rw [e]
 exact ⟨by rw [List.take_append_of_le_length (by omega)],by rw [List.drop_append_of_le_length (by omega)]⟩
theorem more_fill (m p:List UInt8) (h:m.length % 64+p.length=64):stOf (m++p)=blockS (rest m++p) (stOf m)∧rest (m++p)=[]:=by
 have hl:(m++p).length % 64=0:=by rw [List.length_append];omega
 have e:whole (m++p)=m++p:=by unfold whole;exact List.take_of_length_le (by omega)
 refine ⟨?_,by unfold rest;exact List.drop_of_length_le (by omega)⟩
 unfold stOf
 rw [e]
 conv=>lhs;rw [← whole_rest m,List.append_assoc]
 rw [absorb_append _ _ _ (by rw [whole_len];omega),absorb_block _ _ (by rw [List.length_append,rest_len];omega)]
theorem more_block (m p:List UInt8) (h0:m.length % 64=0) (h:p.length=64):stOf (m++p)=blockS p (stOf m)∧rest (m++p)=[]:=by
 have hl:(m++p).length % 64=0:=by rw [List.length_append];omega
 have e:whole (m++p)=m++p:=by unfold whole;exact List.take_of_length_le (by omega)
 have e2:whole m=m:=by unfold whole;exact List.take_of_length_le (by omega)
 refine ⟨?_,by unfold rest;exact List.drop_of_length_le (by omega)⟩
 unfold stOf
 rw [e,e2,absorb_append _ _ _ h0,absorb_block _ _ h]
def gapK (n:Nat):Nat:=1+(119 - n % 64) % 64
theorem gapK_is (n:Nat):(n % 64+gapK n) % 64=56:=by unfold gapK;omega
theorem gapK_least (n k:Nat) (h1:1≤k) (h2:k < gapK n):(n % 64+k) % 64 ≠ 56:=by unfold gapK at h2;omega
theorem gapK_le (n:Nat):1≤gapK n∧gapK n≤64:=by unfold gapK;omega
def padL (n:Nat):List UInt8:=128 :: List.replicate (gapK n - 1) 0++be 8 (8 * n)
theorem padL_len (n:Nat):(padL n).length=gapK n+8:=by
 have:=gapK_le n
 simp [padL,be_len];omega
def S8.bytes (s:S8):List UInt8:=s.list.flatMap fun x=>be 4 x.toNat
theorem S8.bytes_len (s:S8):s.bytes.length=32:=by simp [S8.bytes,S8.list,be_len]
def shaP (m:List UInt8):List UInt8:=(stOf (m++padL m.length)).bytes
theorem shaP_len (m:List UInt8):(shaP m).length=32:=S8.bytes_len _
def cutP' (w:Int) (d:List UInt8):List UInt8:=d.take (max w 1).toNat++List.replicate (d.length - (max w 1).toNat) 0
theorem cutP'_len (w:Int) (d:List UInt8):(cutP' w d).length=d.length:=by
 unfold cutP'
 rw [List.length_append,List.length_take,List.length_replicate];omega
def ofP (w:Int) (t:List UInt8):List UInt8:=cutP' w (shaP t)
theorem ofP_len (w:Int) (t:List UInt8):(ofP w t).length=32:=by unfold ofP;rw [cutP'_len,shaP_len]
def nodeP (w:Int) (l r:List UInt8):List UInt8:=ofP w (1 :: l++r)
end
section
def dropSeq:Nat→Code→Code
 | 0,c=>c
 | n+1,.seq _ c=>dropSeq n c
 | _,c=>c
def headSeq:Code→Code
 | .seq c _=>c
 | c=>c
theorem drewN_add (w:World):∀ n m:Nat,(w.drewN n).drewN m=w.drewN (n+m):=by
 intro n m
 induction m with
 | zero=>rfl
 | succ m ih=>first | (show ((w.drewN n).drewN m).drew=_;rw [ih];rfl) | (simp [World.drewN,ih];done)
theorem turn_q (w:World) (k:Nat) (x:UInt32) (n:Int) (hn:n ∈ [(2:Int),6,7,11,13,17,18,19,22,25]):Calls Tryz.prog 253 #[.int .u32 (x.toNat:Int),.int .i64 n] (w.drewN k) fun e w'=>e=.returned (.int .u32 ((rot n x).toNat:Int))∧∃ m,w'=w.drewN m :=
 (turn_any (w.drewN k) x n hn).mono fun _ _ ⟨he,j,hj⟩=>⟨he,k+j,by rw [hj,drewN_add]⟩
theorem keepq {w:World} {b o o':Nat} {v u:Value} {cs:Array Value} {ty:TypeId} (hh:w.heap[b]?=some (.cells cs ty (0,0))) (h:cs[o]?=some v) (hne:o' ≠ o):(w.setCell ⟨b,o',none⟩ u).cell? ⟨b,o,none⟩=some v:=by
 rw [cell_of_row _ b o _ _ _ (heap_setCell_same w b o' _ _ u hh),Array.getElem?_setIfInBounds_ne hne]
 exact h
noncomputable def tkB:Code:=headSeq (dropSeq 2 (Tryz.f228.body.getD .skip))
set_option maxHeartbeats 4000000
theorem take_b (w0 W:World) (bw:Nat) (l:List UInt8) (hW:W.heap[bw]?=some (.cells (wArr l 16) 353 (0,0))) (hb:Below bw w0 W) (v0 v1 u2 u3 u5 u6 u7 u8 u9 yQ yR yS yT yU yV yW yX yY yZ zA zB zC zD zE zF zG zH zI zJ zK zL zM zN zO zP zQ zR zS zT zU zV zW zX zY zZ aA aB aC aD aE aF aG aH aI aJ aK aL aM aN aO aP aQ aR aS aT aU aV aW aX aY aZ bA bB bC bD bE bF bG bH bI bJ bK bL bM bN bO bP bQ bR bS bT bU bV bW bX bY bZ cA cB uA uB uC uD uE uF uG uH uI uJ uK uL uM uN uO uP uQ uR uS uT uU uV uW uX uY uZ vA vB vC vD vE vF vG vH vI vJ vK vL vM vN vO vP vQ vR vS vT vU vV vW vX vY vZ qA qB qC qD qE qF qG qH qI qJ qK qL qM qN qO qP qQ qR qS qT qU qV qW qX qY qZ jA jB jC jD jE jF jG jH jI jJ jK jL jM jN jO jP jQ jR jS jT jU jV jW jX jY jZ yA yB yC yD yE yF yG yH yI yJ yK yL yM yN yO yP:Value) (K:Act→World→Prop) (PST:Ending→World→Prop)
 (hK:∀ (u2 u3 u5 u6 u7 u8 u9 yQ yR yS yT yU yV yW yX yY yZ zA zB zC zD zE zF zG zH zI zJ zK zL zM zN zO zP zQ zR zS zT zU zV zW zX zY zZ aA aB aC aD aE aF aG aH aI aJ aK aL aM aN aO aP aQ aR aS aT aU aV aW aX aY aZ bA bB bC bD bE bF bG bH bI bJ bK bL bM bN bO bP bQ bR bS bT bU bV bW bX bY bZ cA cB uA uB uC uD uE uF uG uH uI uJ uK uL uM uN uO uP uQ uR uS uT uU uV uW uX uY uZ vA vB vC vD vE vF vG vH vI vJ vK vL vM vN vO vP vQ vR vS vT vU vV vW vX vY vZ qA qB qC qD qE qF qG qH qI qJ qK qL qM qN qO qP qQ qR qS qT qU qV qW qX qY qZ jA jB jC jD jE jF jG jH jI jJ jK jL jM jN jO jP jQ jR jS jT jU jV jW jX jY jZ yA yB yC yD yE yF yG yH yI yJ yK yL yM yN yO yP:Value) (w':World),w'.heap[bw]?=some (.cells (wArr l 64) 353 (0,0))→Below bw w0 w'→K ⟨#[v0,v1,u2,u3,.pointer (some ⟨bw,0,none⟩),u5,u6,u7,u8,u9,yQ,yR,yS,yT,yU,yV,yW,yX,yY,yZ,zA,zB,zC,zD,zE,zF,zG,zH,zI,zJ,zK,zL,zM,zN,zO,zP,zQ,zR,zS,zT,zU,zV,zW,zX,zY,zZ,aA,aB,aC,aD,aE,aF,aG,aH,aI,aJ,aK,aL,aM,aN,aO,aP,aQ,aR,aS,aT,aU,aV,aW,aX,aY,aZ,bA,bB,bC,bD,bE,bF,bG,bH,bI,bJ,bK,bL,bM,bN,bO,bP,bQ,bR,bS,bT,bU,bV,bW,bX,bY,bZ,cA,cB,uA,uB,uC,uD,uE,uF,uG,uH,uI,uJ,uK,uL,uM,uN,uO,uP,uQ,uR,uS,uT,uU,uV,uW,uX,uY,uZ,vA,vB,vC,vD,vE,vF,vG,vH,vI,vJ,vK,vL,vM,vN,vO,vP,vQ,vR,vS,vT,vU,vV,vW,vX,vY,vZ,qA,qB,qC,qD,qE,qF,qG,qH,qI,qJ,qK,qL,qM,qN,qO,qP,qQ,qR,qS,qT,qU,qV,qW,qX,qY,qZ,jA,jB,jC,jD,jE,jF,jG,jH,jI,jJ,jK,jL,jM,jN,jO,jP,jQ,jR,jS,jT,jU,jV,jW,jX,jY,jZ,yA,yB,yC,yD,yE,yF,yG,yH,yI,yJ,yK,yL,yM,yN,yO,yP],[]⟩ w') :
 Code.wp Tryz.prog tkB (Exit.then K (bodyPost Tryz.prog Tryz.f228 PST)) ⟨#[v0,v1,u2,u3,.pointer (some ⟨bw,0,none⟩),u5,u6,u7,u8,u9,yQ,yR,yS,yT,yU,yV,yW,yX,yY,yZ,zA,zB,zC,zD,zE,zF,zG,zH,zI,zJ,zK,zL,zM,zN,zO,zP,zQ,zR,zS,zT,zU,zV,zW,zX,zY,zZ,aA,aB,aC,aD,aE,aF,aG,aH,aI,aJ,aK,aL,aM,aN,aO,aP,aQ,aR,aS,aT,aU,aV,aW,aX,aY,aZ,bA,bB,bC,bD,bE,bF,bG,bH,bI,bJ,bK,bL,bM,bN,bO,bP,bQ,bR,bS,bT,bU,bV,bW,bX,bY,bZ,cA,cB,uA,uB,uC,uD,uE,uF,uG,uH,uI,uJ,uK,uL,uM,uN,uO,uP,uQ,uR,uS,uT,uU,uV,uW,uX,uY,uZ,vA,vB,vC,vD,vE,vF,vG,vH,vI,vJ,vK,vL,vM,vN,vO,vP,vQ,vR,vS,vT,vU,vV,vW,vX,vY,vZ,qA,qB,qC,qD,qE,qF,qG,qH,qI,qJ,qK,qL,qM,qN,qO,qP,qQ,qR,qS,qT,qU,qV,qW,qX,qY,qZ,jA,jB,jC,jD,jE,jF,jG,jH,jI,jJ,jK,jL,jM,jN,jO,jP,jQ,jR,jS,jT,jU,jV,jW,jX,jY,jZ,yA,yB,yC,yD,yE,yF,yG,yH,yI,yJ,yK,yL,yM,yN,yO,yP],[]⟩ W:=by
 have HK:=hid hK
 clear hK
 conv=>arg 2;whnf
 go_wp2_with fail
 go_loopw [6,7,8] (fun i _ _ wr=>∃ t:Nat,16≤t∧t≤64∧i=.int .i64 t∧wr.heap[bw]?=some (.cells (wArr l t) 353 (0,0))∧Below bw w0 wr) (fun i _ _ _=>64 - (intOf i).toNat)
 case atStart=>exact ⟨16,by omega,by omega,rfl,hW,hb⟩
 case round =>
  obtain ⟨t,ht0,htt,rfl,hw,hb⟩:=hrel
  have HB:=hid hb
  by_cases hlt:t < 64
  · have hcx:∀ j,j < t→wr.cell? ⟨bw,j,none⟩=some (.int .u32 ((wT l j).toNat:Int)):=fun j hj=>by
     have:=cell_of_row wr bw j _ _ _ hw
     rw [this,wArr_get l t j (by omega),if_pos hj];rfl
    obtain ⟨q0,hq0⟩:∃ q:Nat,q=t - 16:=⟨_,rfl⟩
    obtain ⟨q1,hq1⟩:∃ q:Nat,q=t - 15:=⟨_,rfl⟩
    obtain ⟨q2,hq2⟩:∃ q:Nat,q=t - 7:=⟨_,rfl⟩
    obtain ⟨q3,hq3⟩:∃ q:Nat,q=t - 2:=⟨_,rfl⟩
    have hl1:=hcx q0 (by omega)
    have hl2:=hcx q1 (by omega)
    have hl3:=hcx q2 (by omega)
    have hl4:=hcx q3 (by omega)
    have hH:=wT_high l t ht0 hlt
    rw [← hq0,← hq1,← hq2,← hq3] at hH
    have hcc:wr.cell? ⟨bw,t,none⟩=some (.int .u32 0):=by
     have:=cell_of_row wr bw t _ _ _ hw
     rw [this,wArr_get l _ _ (by omega),if_neg (by omega)];rfl
    have hff:wr.frozen? ⟨bw,t,none⟩=false:=frozen_of_row wr bw t _ _ hw
    have HWA:=hid hw
    obtain ⟨W0,hE0⟩:∃ x,x=wT l q0:=⟨_,rfl⟩
    rw [← hE0] at hl1 hH
    have E0:=hid hE0.symm;clear hE0
    obtain ⟨W1,hE1⟩:∃ x,x=wT l q1:=⟨_,rfl⟩
    rw [← hE1] at hl2 hH
    have E1:=hid hE1.symm;clear hE1
    obtain ⟨W2,hE2⟩:∃ x,x=wT l q2:=⟨_,rfl⟩
    rw [← hE2] at hl3 hH
    have E2:=hid hE2.symm;clear hE2
    obtain ⟨W3,hE3⟩:∃ x,x=wT l q3:=⟨_,rfl⟩
    rw [← hE3] at hl4 hH
    have E3:=hid hE3.symm;clear hE3
    have HH:=hid hH
    have HX0:=hid (show q0 < 64∧q0 < t by omega)
    have HX2:=hid (show q2 < 64∧q2 < t by omega)
    have s1:(W1.toNat:Int) / 8=((shr 3 W1).toNat:Int):=(shr_u32 3 W1).symm
    have s2:(W3.toNat:Int) / 1024=((shr 10 W3).toNat:Int):=(shr_u32 10 W3).symm
    have n1:(t:Int) - 16=(q0:Int):=by omega
    have n2:(t:Int) - 15=(q1:Int):=by omega
    have n3:(t:Int) - 7=(q2:Int):=by omega
    have n4:(t:Int) - 2=(q3:Int):=by omega
    have b0:q0 < 64:=by omega
    have b1:q1 < 64:=by omega
    have b2:q2 < 64:=by omega
    have b3:q3 < 64:=by omega
    clear hq0 hq1 hq2 hq3
    clear hw hb hH hcx hW
    have h9:decide ((t:Int) < 64)=true:=by simp;omega
    have N1:=hid n1;have N2:=hid n2;have N3:=hid n3;have N4:=hid n4
    have B0:=hid b0;have B1:=hid b1;have B2:=hid b2;have B3:=hid b3
    have HT:=hid hlt;have HT0:=hid ht0
    clear hlt htt ht0 n1 n2 n3 n4 b0 b1 b2 b3
    go_upto_region 9 with (fail)
    clear h9
    have n2:=N2.out;have n4:=N4.out;have b1:=B1.out;have b3:=B3.out
    go_quiet (fail)
    trace "quiet"
    clear n2 n4 b1 b3
    go_upto_region 10 with (fail)
    have l1:(wr.drewN nq).cell? ⟨bw,q0,none⟩=_:=hl1
    have l2:(wr.drewN nq).cell? ⟨bw,q2,none⟩=_:=hl3
    have lc:(wr.drewN nq).cell? ⟨bw,t,none⟩=_:=hcc
    have lf:(wr.drewN nq).frozen? ⟨bw,t,none⟩=_:=hff
    have HB3:=hid (show Below bw w0 (wr.drewN nq) from below_drewN HB.out nq)
    have HWA3:=hid (show (wr.drewN nq).heap[bw]?=_ from HWA.out)
    clear hl1 hl2 hl3 hl4 hcc hff HB HWA
    generalize wr.drewN nq=w2 at *
    have n1:=N1.out;have n3:=N3.out;have b0:=B0.out;have b2:=B2.out;have hlt:=HT.out
    have i1:IntKind.i64.wrap ((t:Int) - 16)=(q0:Int):=by rw [n1];exact IntWalk.i64_in _ (by omega)
    have i3:IntKind.i64.wrap ((t:Int) - 7)=(q2:Int):=by rw [n3];exact IntWalk.i64_in _ (by omega)
    have d0:((q0:Nat):Int) < 64:=by omega
    have d2:((q2:Nat):Int) < 64:=by omega
    have dt:((t:Nat):Int) < 64:=by omega
    clear n1 n3 b0 b2 hlt
    refine wp_region_held_drew (S:=fun w=>w.cell? ⟨bw,q0,none⟩=some (.int .u32 (W0.toNat:Int))∧w.cell? ⟨bw,q2,none⟩=some (.int .u32 (W2.toNat:Int))) (by kernel_rfl) ⟨l1,l2⟩ (fun hHeld=>?_)
    apply wpT 0
    apply wpT 1
    apply wpT 2
    apply wpT 3
    apply wpT 4
    apply wpT 5
    apply wpT 7
    apply wpT 10
    apply wpT 11
    apply wpT 14
    apply wpT 15
    apply wpT 16
    apply wpT 17
    apply wpT 19
    apply wpT 21
    apply wpT 24
    apply wpT 25
    apply wpR 6
    intro K hK
    go_simp
    with_reducible refine (turn_any _ _ _ (by decide)).mono ?_
    rintro e w9 ⟨rfl,nn,rfl⟩
    refine hK.out _ _ ⟨l1,l2⟩ (fun hHeld=>?_)
    clear hK K
    (try simp only [Act.put,List.setIfInBounds_toArray,List.set_cons_zero,List.set_cons_succ,List.getElem_toArray,List.getElem_cons_succ,List.getElem_cons_zero])
    trace "c6"
    apply wpR 8
    intro K hK
    go_simp
    with_reducible refine (turn_any _ _ _ (by decide)).mono ?_
    rintro e w9 ⟨rfl,nn,rfl⟩
    refine hK.out _ _ ⟨l1,l2⟩ (fun hHeld=>?_)
    clear hK K
    (try simp only [Act.put,List.setIfInBounds_toArray,List.set_cons_zero,List.set_cons_succ,List.getElem_toArray,List.getElem_cons_succ,List.getElem_cons_zero])
    apply wpT 9
    apply wpT 12
    apply wpT 13
    apply wpT 18
    apply wpR 20
    intro K hK
    go_simp
    with_reducible refine (turn_any _ _ _ (by decide)).mono ?_
    rintro e w9 ⟨rfl,nn,rfl⟩
    refine hK.out _ _ ⟨l1,l2⟩ (fun hHeld=>?_)
    clear hK K
    (try simp only [Act.put,List.setIfInBounds_toArray,List.set_cons_zero,List.set_cons_succ,List.getElem_toArray,List.getElem_cons_succ,List.getElem_cons_zero])
    apply wpR 22
    intro K hK
    go_simp
    with_reducible refine (turn_any _ _ _ (by decide)).mono ?_
    rintro e w9 ⟨rfl,nn,rfl⟩
    refine hK.out _ _ ⟨l1,l2⟩ (fun hHeld=>?_)
    clear hK K
    (try simp only [Act.put,List.setIfInBounds_toArray,List.set_cons_zero,List.set_cons_succ,List.getElem_toArray,List.getElem_cons_succ,List.getElem_cons_zero])
    apply wpT 23
    apply wpT 26
    apply wpT 27
    apply wpT 28
    apply wpR 29
    intro K hK
    go_simp
    refine hK.out _ _ ⟨keepq HWA3.out (by rw [wArr_get l t q0 HX0.out.1,if_pos HX0.out.2,E0.out];rfl) (Nat.ne_of_gt HX0.out.2),keepq HWA3.out (by rw [wArr_get l t q2 HX2.out.1,if_pos HX2.out.2,E2.out];rfl) (Nat.ne_of_gt HX2.out.2)⟩ (fun hHeld=>?_)
    clear hK K
    (try simp only [Act.put,List.setIfInBounds_toArray,List.set_cons_zero,List.set_cons_succ,List.getElem_toArray,List.getElem_cons_succ,List.getElem_cons_zero])
    refine wpAnyH_done (by kernel_rfl) ?_ _
    have hs:=heap_setCell_same (w2.drew) bw t _ _ (wv (wT l t)) HWA3.out
    rw [wArr_set l t HT.out,← HH.out] at hs
    have HS:=hid hs
    have hlt:=HT.out
    clear hs s1 s2 l1 l2 lc lf i1 i3 d0 d2 dt
    go_wp2_with fail
    go_roundw
    case rel=>exact ⟨t+1,by have:=HT0.out;omega,by have:=HT.out;omega,by go_num,(by simp only [add_u32];exact HS.out),(below_drewN HB3.out _).setCell (Nat.le_refl _) _⟩
    case measure=>have:=HT.out;simp [intOf];omega
  · obtain rfl:t=64:=by omega
    have h9:decide (((64:Nat):Int) < 64)=false:=by decide
    clear hlt htt ht0 HB
    go_wp2_with fail
    refine HK.out _ _ _ _ _ _ _ _ _ _ _ _ _ _ _ _ _ _ _ _ _ _ _ _ _ _ _ _ _ _ _ _ _ _ _ _ _ _ _ _ _ _ _ _ _ _ _ _ _ _ _ _ _ _ _ _ _ _ _ _ _ _ _ _ _ _ _ _ _ _ _ _ _ _ _ _ _ _ _ _ _ _ _ _ _ _ _ _ _ _ _ _ _ _ _ _ _ _ _ _ _ _ _ _ _ _ _ _ _ _ _ _ _ _ _ _ _ _ _ _ _ _ _ _ _ _ _ _ _ _ _ _ _ _ _ _ _ _ _ _ _ _ _ _ _ _ _ _ _ _ _ _ _ _ _ _ _ _ _ _ _ _ _ _ _ _ _ _ _ _ _ _ _ _ _ _ _ _ _ _ _ _ _ _ _ _ _ _ _ _ _ _ _ _ _ _ _ _ _ _ _ _ _ _ _ _ _ _ _ _ _ _ _ _ _ _ _  _ hw hb
end
end Go.Proofs.YtgkehahklccacaaGreatDoor
