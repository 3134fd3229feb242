import Derived.Test.YtgkehahklccacaaGreatDoorC07
import Derived.Laws.CopyOwn
import Derived.Deep.RegionHeld3
import Derived.IntWalk
import Derived.BigGuardPart
import Derived.BigQuiet
import Derived.Deep.QuietTactic
import Derived.Test.YtgkehahklccacaaGreatDoorC03
import Derived.Deep.MidRow
namespace Go.Proofs.YtgkehahklccacaaGreatDoor
open Go Go.RowKit
open Go.Lib (hid)
set_option maxRecDepth 100000
set_option maxHeartbeats 1000000
set_option linter.unusedVariables false
set_option linter.unusedSimpArgs false
section
def valN (l:List UInt8):Nat:=l.foldl (fun n c=>n * 256+c.toNat) 0
theorem valN_snoc (l:List UInt8) (c:UInt8):valN (l++[c])=valN l * 256+c.toNat:=by simp [valN]
theorem valN_lt':∀ (l:List UInt8) (n:Nat),l.foldl (fun n c=>n * 256+c.toNat) n < (n+1) * 256 ^ l.length
 | [],n=>by simp
 | c :: l,n=>by
   have:=valN_lt' l (n * 256+c.toNat)
   have hc:=c.toNat_lt
   refine Nat.lt_of_lt_of_le this ?_
   rw [List.length_cons,Nat.pow_succ,Nat.mul_comm (256 ^ l.length),← Nat.mul_assoc]
   exact Nat.mul_le_mul_right _ (by omega)
theorem valN_lt (l:List UInt8):valN l < 256 ^ l.length:=by
 have:=valN_lt' l 0
 simpa [valN] using this
theorem be_snoc (k n:Nat):be (k+1) n=be k (n / 256)++[UInt8.ofNat n]:=by
 unfold be
 rw [List.range_succ,List.map_append,List.map_singleton]
 congr 1
 · refine List.map_congr_left fun j hj=>?_
   have hj:j < k:=List.mem_range.1 hj
   rw [show 8 * (k+1 - 1 - j)=8 * (k - 1 - j)+8 by omega,Nat.pow_add,Nat.mul_comm,← Nat.div_div_eq_div_mul]
 · rw [show 8 * (k+1 - 1 - k)=0 by omega,Nat.pow_zero,Nat.div_one]
theorem valN_be (k:Nat):∀ n,n < 256 ^ k→valN (be k n)=n:=by
 induction k with
 | zero=>intro n h;simp at h;subst h;rfl
 | succ k ih =>
   intro n h
   rw [be_snoc,valN_snoc,ih (n / 256) (by rw [Nat.pow_succ] at h;omega),UInt8.toNat_ofNat']
   omega
def sh8 (x:UInt64):UInt64:=UInt64.ofNat (x.toNat * 256)
def or8 (x:UInt64) (c:UInt8):UInt64:=x ||| c.toUInt64
@[go_sem] theorem sh8_u64 (x:UInt64):(x.toNat:Int) * 256 % 18446744073709551616=((sh8 x).toNat:Int):=by
  unfold sh8
  rw [UInt64.toNat_ofNat',Int.natCast_emod,Int.natCast_mul];rfl
@[go_sem] theorem sh8_wrap (x:UInt64):IntKind.u64.wrap ((x.toNat:Int) * 256)=((sh8 x).toNat:Int):=by
  rw [← sh8_u64];rfl
@[go_sem] theorem wrap_u64_u8 (c:UInt8):IntKind.u64.wrap (c.toNat:Int)=(c.toNat:Int):=by
  have:=c.toNat_lt
  simp [IntKind.wrap,IntKind.bits,IntKind.signed];omega
theorem ofInt64 (x:UInt64):BitVec.ofInt 64 (x.toNat:Int)=x.toBitVec:=by
 rw [BitVec.ofInt_natCast];simp
theorem wrap_u64_nat {n:Nat} (h:n < 18446744073709551616):IntKind.u64.wrap (n:Int)=n:=by
 simp [IntKind.wrap,IntKind.bits,IntKind.signed];omega
@[go_sem] theorem or_u64_u8 (x:UInt64) (c:UInt8):bits .or .u64 (x.toNat:Int) (c.toNat:Int)=((or8 x c).toNat:Int):=by
  rw [show (c.toNat:Int)=(c.toUInt64.toNat:Int) by simp]
  simp only [bits,IntKind.bits,ofInt64]
  rw [wrap_u64_nat (BitVec.isLt _)];rfl
def val64 (l:List UInt8):UInt64:=l.foldl (fun n c=>or8 (sh8 n) c) 0
theorem val64_snoc (l:List UInt8) (c:UInt8):val64 (l++[c])=or8 (sh8 (val64 l)) c:=by simp [val64]
theorem val64_eq':∀ (l:List UInt8) (x:UInt64),l.length≤8→x.toNat < 256 ^ (8 - l.length)→(l.foldl (fun n c=>or8 (sh8 n) c) x).toNat=l.foldl (fun n c=>n * 256+c.toNat) x.toNat
 | [],x,_,_=>rfl
 | c :: l,x,hl,hx=>by
   rw [List.length_cons] at hl hx
   have hc:=c.toNat_lt
   have e:(or8 (sh8 x) c).toNat=x.toNat * 256+c.toNat:=by
    have h3:256 ^ (8 - (l.length+1))≤256 ^ 7:=Nat.pow_le_pow_right (by omega) (by omega)
    have h7:256 ^ 7=72057594037927936:=by decide
    unfold or8 sh8
    rw [UInt64.toNat_or,UInt64.toNat_ofNat',UInt8.toNat_toUInt64,Nat.mod_eq_of_lt (by omega)]
    rw [show x.toNat * 256=x.toNat <<< 8 by rw [Nat.shiftLeft_eq],← Nat.shiftLeft_add_eq_or_of_lt (by simpa using hc)]
   show (l.foldl _ (or8 (sh8 x) c)).toNat=l.foldl _ (x.toNat * 256+c.toNat)
   rw [val64_eq' l _ (by omega) ?_,e]
   rw [e]
   have:256 ^ (8 - l.length)=256 ^ (8 - (l.length+1)) * 256:=by rw [← Nat.pow_succ];congr 1;omega
   omega
theorem val64_eq (l:List UInt8) (h:l.length≤8):(val64 l).toNat=valN l:=val64_eq' l 0 h (Nat.pow_pos (by omega))
theorem valN_take (l:List UInt8) (k:Nat) (c:UInt8) (h:l[k]?=some c):val64 (l.take (k+1))=or8 (sh8 (val64 (l.take k))) c:=by
 rw [List.take_add_one,h];exact val64_snoc _ _
def RdAt (w:World) (gr:Nat) (l:List UInt8) (p:Nat):Prop:=∃ a n c,w.heap[gr]?=some (.cells #[.slice a n c,.int .i64 (p:Int),.int .i64 0] 319 (0,0))∧R8 w a n c l∧(∀ x,a=some x→0 < n→gr ≠ x.block)∧n≤1000000000000
theorem RdAt.lt {w:World} {gr p:Nat} {l:List UInt8} (h:RdAt w gr l p):gr < w.heap.size:=by
 obtain ⟨a,n,c,h1,-⟩:=h
 exact (Array.getElem?_eq_some_iff.1 h1).1
theorem RdAt.below {w w':World} {gr p:Nat} {l:List UInt8} (h:RdAt w gr l p) (hb:Below w.heap.size w w'):RdAt w' gr l p:=by
 have hl:=h.lt
 obtain ⟨a,n,c,h1,h2,h3,h4⟩:=h
 exact ⟨a,n,c,(hb.block gr hl).trans h1,h2.below hb,h3,h4⟩
theorem RdAt.moved {w:World} {gr p:Nat} {l:List UInt8} (h:RdAt w gr l p) (q:Nat):RdAt (w.setCell ⟨gr,1,none⟩ (.int .i64 (q:Int))) gr l q:=by
 obtain ⟨a,n,c,h1,h2,h3,h4⟩:=h
 have:=heap_setCell_same w gr 1 _ _ (.int .i64 (q:Int)) h1
 exact ⟨a,n,c,by simpa using this,r8_grown h2 h3 (grown_set (grown_refl w (some gr)) 0 1 _),h3,h4⟩
set_option maxHeartbeats 4000000
theorem read_new (w:World) (a:Option Addr) (n c:Nat) (l:List UInt8) (hr:R8 w a n c l) (hn:n≤1000000000000) :
 Calls Tryz.prog 172 #[.slice a n c] w fun e w'=>∃ gr,e=.returned (.pointer (some ⟨gr,0,none⟩))∧w.heap.size≤gr∧RdAt w' gr l 0∧Below w.heap.size w w':=by
 have HR:=hid hr
 have hnl:=hr.1
 have HNL:=hid hnl
 clear hr hnl
 go_enter Tryz.func172,Tryz.ntmps172
 go_wp2_with (at_builtin;refine L_append8 rfl _ _ _ rfl sl22 w.heap.size (.slice none 0 0) 0 [] rfl (World.ownsRow_nil _ _ _ _) _ _ _ l rfl HR.out (by omega) (by simp [maxLen];omega) (Nat.le_refl _) (fun a3 c3 w3 ho3 hg3 _=>?_)
              have HO3:=hid ho3;have HG3:=hid hg3
              clear ho3 hg3)
 go_ret
 have hb3:Below w.heap.size w w3:=(Below.refl _ _).grown HG3.out (Nat.le_refl _) (by intro k hk;cases hk)
 have ho:=HO3.out
 simp only [Nat.zero_add,List.nil_append] at ho ⊢
 have hr3:R8 w3 a3 n c3 l:=R8.of_owns ho (by omega)
 refine ⟨w3.heap.size,rfl,hb3.size,⟨a3,n,c3,heap_alloc_new w3 _,hr3.below ((Below.refl _ _).alloc (Nat.le_refl _) _),fun x hx h0=>?_,hn⟩,hb3.alloc hb3.size _⟩
 obtain ⟨b,off,e,hc⟩:=hr3.2.2.2 0 (by have:=HNL.out;omega)
 rw [hx] at e
 obtain rfl:=Option.some.inj e
 have:b < w3.heap.size:=World.block_lt_of_cell? w3 _ hc
 show w3.heap.size ≠ b
 omega
theorem ahead_u8 (w:World) (gr:Nat) (l:List UInt8) (q p:Nat) (h:RdAt w gr l q) (hp:p+1≤l.length) :
 Calls Tryz.prog 221 #[.pointer (some ⟨gr,0,none⟩),.int .i64 (p:Int)] w fun e w'=>e=.returned (.tuple #[.int .u8 (valN ((l.drop p).take 1):Nat),.int .i64 ((p:Int)+1),.bool true])∧w=w':=by
 obtain ⟨a,n,c,hh,hr,-,hn⟩:=h
 have hnl:=hr.1
 have k0:w.cell? ⟨gr,0,none⟩=some (.slice a n c):=by rw [cell_of_row _ _ _ _ _ _ hh];rfl
 have hpn:p+1≤n:=by omega
 have hnc:=hr.2.1
 have HM:=hid (hr.mid p (p+1) (by omega) hpn)
 rw [show p+1 - p=1 by omega] at HM
 have hsl0:∀ wx,(Instr.slice 53 (.slice a n c) (some (.int .i64 (p:Int))) (some (.int .i64 ((p:Int)+1))) none).run Tryz.prog wx=.ok (.slice (dropA a p c) 1 (c - p)) wx:=fun wx=>by
  have:=slice_mid (P:=Tryz.prog) sl22 wx a n c p (p+1) (p:Int) ((p:Int)+1) rfl (by push_cast;rfl) (by omega) (by omega)
  rwa [show p+1 - p=1 by omega] at this
 obtain ⟨m,hm⟩:∃ m,m=(l.drop p).take 1:=⟨_,rfl⟩
 rw [← hm] at HM ⊢
 have hml:m.length=1:=by rw [hm,List.length_take,List.length_drop];omega
 obtain ⟨a2,ha2⟩:∃ a2,a2=dropA a p c:=⟨_,rfl⟩
 obtain ⟨c2,hc2⟩:∃ c2,c2=c - p:=⟨_,rfl⟩
 rw [← ha2,← hc2] at HM
 have hsl:∀ wx,(Instr.slice 53 (.slice a n c) (some (.int .i64 (p:Int))) (some (.int .i64 ((p:Int)+1))) none).run Tryz.prog wx=.ok (.slice a2 1 c2) wx:=fun wx=>by rw [ha2,hc2];exact hsl0 wx
 have hgt:decide ((n:Int) - (p:Int) < 1)=false:=by simp;omega
 have hv:=valN_lt m
 rw [hml] at hv
 have HV:=hid (show (val64 m).toNat=valN m∧valN m < 256 ^ 1 from ⟨val64_eq m (by omega),hv⟩)
 have HML:=hid hml
 have hp48:p≤1000000000000:=by omega
 have hpI:(p:Int)≤(n:Int):=by omega
 clear hr hh hnl hm hml ha2 hc2 hv hsl0
 go_enter Tryz.func221,Tryz.ntmps221
 go_wp2_with (go_at_call 209;((with_reducible refine (width8 _).mono ?_);rintro e w' ⟨rfl,rfl⟩))
 go_loop [32,8,10] (fun v x _=>∃ j:Nat,j≤1∧v=.int .i64 j∧x=.int .u64 ((val64 (m.take j)).toNat:Int)) (fun v _ _=>1 - (intOf v).toNat)
 case atStart=>exact ⟨0,by omega,rfl,rfl⟩
 case round =>
  clear hsl hgt hpI
  obtain ⟨j,hj,rfl,rfl⟩:=hrel
  by_cases hlt:j < 1
  · obtain ⟨b,off,x,rfl,hl,hck⟩:=HM.out.at hlt
    have HS:=hid (valN_take m j x hl)
    have h9:decide ((j:Int) < 1)=true:=by simp;omega
    have HLT:=hid hlt
    clear hl hlt hj
    obtain ⟨y,hy⟩:∃ y,y=val64 (m.take j):=⟨_,rfl⟩
    rw [← hy] at HS ⊢
    clear hy
    have hj8:j < 1:=HLT.out
    go_wp2_with fail
    go_round
    case rel=>exact ⟨j+1,by omega,by go_num,by rw [HS.out]⟩
    case measure=>simp [intOf];omega
  · obtain rfl:j=1:=by omega
    have h9:decide (((1:Nat):Int) < 1)=false:=by decide
    rw [List.take_of_length_le (by rw [HML.out];exact Nat.le_refl _),HV.out.1]
    have hvv:=HV.out.2
    obtain ⟨v,hv⟩:∃ v,v=valN m:=⟨_,rfl⟩
    rw [← hv] at hvv ⊢
    have HVV:=hid hv
    have hw:IntKind.u8.wrap (v:Int)=(v:Int):=by
     simp [IntKind.wrap,IntKind.bits,IntKind.signed];omega
    clear hlt hj hvv hv
    go_wp2_with fail
    go_ret3
    exact ⟨by rw [HVV.out];rfl,rfl⟩
theorem ahead_u64 (w:World) (gr:Nat) (l:List UInt8) (q p:Nat) (h:RdAt w gr l q) (hp:p+8≤l.length) :
 Calls Tryz.prog 223 #[.pointer (some ⟨gr,0,none⟩),.int .i64 (p:Int)] w fun e w'=>e=.returned (.tuple #[.int .u64 (valN ((l.drop p).take 8):Nat),.int .i64 ((p:Int)+8),.bool true])∧w=w':=by
 obtain ⟨a,n,c,hh,hr,-,hn⟩:=h
 have hnl:=hr.1
 have k0:w.cell? ⟨gr,0,none⟩=some (.slice a n c):=by rw [cell_of_row _ _ _ _ _ _ hh];rfl
 have hpn:p+8≤n:=by omega
 have hnc:=hr.2.1
 have HM:=hid (hr.mid p (p+8) (by omega) hpn)
 rw [show p+8 - p=8 by omega] at HM
 have hsl0:∀ wx,(Instr.slice 53 (.slice a n c) (some (.int .i64 (p:Int))) (some (.int .i64 ((p:Int)+8))) none).run Tryz.prog wx=.ok (.slice (dropA a p c) 8 (c - p)) wx:=fun wx=>by
  have:=slice_mid (P:=Tryz.prog) sl22 wx a n c p (p+8) (p:Int) ((p:Int)+8) rfl (by push_cast;rfl) (by omega) (by omega)
  rwa [show p+8 - p=8 by omega] at this
 obtain ⟨m,hm⟩:∃ m,m=(l.drop p).take 8:=⟨_,rfl⟩
 rw [← hm] at HM ⊢
 have hml:m.length=8:=by rw [hm,List.length_take,List.length_drop];omega
 obtain ⟨a2,ha2⟩:∃ a2,a2=dropA a p c:=⟨_,rfl⟩
 obtain ⟨c2,hc2⟩:∃ c2,c2=c - p:=⟨_,rfl⟩
 rw [← ha2,← hc2] at HM
 have hsl:∀ wx,(Instr.slice 53 (.slice a n c) (some (.int .i64 (p:Int))) (some (.int .i64 ((p:Int)+8))) none).run Tryz.prog wx=.ok (.slice a2 8 c2) wx:=fun wx=>by rw [ha2,hc2];exact hsl0 wx
 have hgt:decide ((n:Int) - (p:Int) < 8)=false:=by simp;omega
 have hv:=valN_lt m
 rw [hml] at hv
 have HV:=hid (show (val64 m).toNat=valN m∧valN m < 256 ^ 8 from ⟨val64_eq m (by omega),hv⟩)
 have HML:=hid hml
 have hp48:p≤1000000000000:=by omega
 have hpI:(p:Int)≤(n:Int):=by omega
 clear hr hh hnl hm hml ha2 hc2 hv hsl0
 go_enter Tryz.func223,Tryz.ntmps223
 go_wp2_with (go_at_call 210;((with_reducible refine (width64 _).mono ?_);rintro e w' ⟨rfl,rfl⟩))
 go_loop [32,8,10] (fun v x _=>∃ j:Nat,j≤8∧v=.int .i64 j∧x=.int .u64 ((val64 (m.take j)).toNat:Int)) (fun v _ _=>8 - (intOf v).toNat)
 case atStart=>exact ⟨0,by omega,rfl,rfl⟩
 case round =>
  clear hsl hgt hpI
  obtain ⟨j,hj,rfl,rfl⟩:=hrel
  by_cases hlt:j < 8
  · obtain ⟨b,off,x,rfl,hl,hck⟩:=HM.out.at hlt
    have HS:=hid (valN_take m j x hl)
    have h9:decide ((j:Int) < 8)=true:=by simp;omega
    have HLT:=hid hlt
    clear hl hlt hj
    obtain ⟨y,hy⟩:∃ y,y=val64 (m.take j):=⟨_,rfl⟩
    rw [← hy] at HS ⊢
    clear hy
    have hj8:j < 8:=HLT.out
    go_wp2_with fail
    go_round
    case rel=>exact ⟨j+1,by omega,by go_num,by rw [HS.out]⟩
    case measure=>simp [intOf];omega
  · obtain rfl:j=8:=by omega
    have h9:decide (((8:Nat):Int) < 8)=false:=by decide
    rw [List.take_of_length_le (by rw [HML.out];exact Nat.le_refl _),HV.out.1]
    have hvv:=HV.out.2
    obtain ⟨v,hv⟩:∃ v,v=valN m:=⟨_,rfl⟩
    rw [← hv] at hvv ⊢
    have HVV:=hid hv
    have hw:IntKind.u64.wrap (v:Int)=(v:Int):=by
     simp [IntKind.wrap,IntKind.bits,IntKind.signed];omega
    clear hlt hj hvv hv
    go_wp2_with fail
    go_ret3
    exact ⟨by rw [HVV.out];rfl,rfl⟩
theorem ahead_u32 (w:World) (gr:Nat) (l:List UInt8) (q p:Nat) (h:RdAt w gr l q) (hp:p+4≤l.length) :
 Calls Tryz.prog 225 #[.pointer (some ⟨gr,0,none⟩),.int .i64 (p:Int)] w fun e w'=>e=.returned (.tuple #[.int .u32 (valN ((l.drop p).take 4):Nat),.int .i64 ((p:Int)+4),.bool true])∧w=w':=by
 obtain ⟨a,n,c,hh,hr,-,hn⟩:=h
 have hnl:=hr.1
 have k0:w.cell? ⟨gr,0,none⟩=some (.slice a n c):=by rw [cell_of_row _ _ _ _ _ _ hh];rfl
 have hpn:p+4≤n:=by omega
 have hnc:=hr.2.1
 have HM:=hid (hr.mid p (p+4) (by omega) hpn)
 rw [show p+4 - p=4 by omega] at HM
 have hsl0:∀ wx,(Instr.slice 53 (.slice a n c) (some (.int .i64 (p:Int))) (some (.int .i64 ((p:Int)+4))) none).run Tryz.prog wx=.ok (.slice (dropA a p c) 4 (c - p)) wx:=fun wx=>by
  have:=slice_mid (P:=Tryz.prog) sl22 wx a n c p (p+4) (p:Int) ((p:Int)+4) rfl (by push_cast;rfl) (by omega) (by omega)
  rwa [show p+4 - p=4 by omega] at this
 obtain ⟨m,hm⟩:∃ m,m=(l.drop p).take 4:=⟨_,rfl⟩
 rw [← hm] at HM ⊢
 have hml:m.length=4:=by rw [hm,List.length_take,List.length_drop];omega
 obtain ⟨a2,ha2⟩:∃ a2,a2=dropA a p c:=⟨_,rfl⟩
 obtain ⟨c2,hc2⟩:∃ c2,c2=c - p:=⟨_,rfl⟩
 rw [← ha2,← hc2] at HM
 have hsl:∀ wx,(Instr.slice 53 (.slice a n c) (some (.int .i64 (p:Int))) (some (.int .i64 ((p:Int)+4))) none).run Tryz.prog wx=.ok (.slice a2 4 c2) wx:=fun wx=>by rw [ha2,hc2];exact hsl0 wx
 have hgt:decide ((n:Int) - (p:Int) < 4)=false:=by simp;omega
 have hv:=valN_lt m
 rw [hml] at hv
 have HV:=hid (show (val64 m).toNat=valN m∧valN m < 256 ^ 4 from ⟨val64_eq m (by omega),hv⟩)
 have HML:=hid hml
 have hp48:p≤1000000000000:=by omega
 have hpI:(p:Int)≤(n:Int):=by omega
 clear hr hh hnl hm hml ha2 hc2 hv hsl0
 go_enter Tryz.func225,Tryz.ntmps225
 go_wp2_with (go_at_call 211;((with_reducible refine (width32 _).mono ?_);rintro e w' ⟨rfl,rfl⟩))
 go_loop [32,8,10] (fun v x _=>∃ j:Nat,j≤4∧v=.int .i64 j∧x=.int .u64 ((val64 (m.take j)).toNat:Int)) (fun v _ _=>4 - (intOf v).toNat)
 case atStart=>exact ⟨0,by omega,rfl,rfl⟩
 case round =>
  clear hsl hgt hpI
  obtain ⟨j,hj,rfl,rfl⟩:=hrel
  by_cases hlt:j < 4
  · obtain ⟨b,off,x,rfl,hl,hck⟩:=HM.out.at hlt
    have HS:=hid (valN_take m j x hl)
    have h9:decide ((j:Int) < 4)=true:=by simp;omega
    have HLT:=hid hlt
    clear hl hlt hj
    obtain ⟨y,hy⟩:∃ y,y=val64 (m.take j):=⟨_,rfl⟩
    rw [← hy] at HS ⊢
    clear hy
    have hj8:j < 4:=HLT.out
    go_wp2_with fail
    go_round
    case rel=>exact ⟨j+1,by omega,by go_num,by rw [HS.out]⟩
    case measure=>simp [intOf];omega
  · obtain rfl:j=4:=by omega
    have h9:decide (((4:Nat):Int) < 4)=false:=by decide
    rw [List.take_of_length_le (by rw [HML.out];exact Nat.le_refl _),HV.out.1]
    have hvv:=HV.out.2
    obtain ⟨v,hv⟩:∃ v,v=valN m:=⟨_,rfl⟩
    rw [← hv] at hvv ⊢
    have HVV:=hid hv
    have hw:IntKind.u32.wrap (v:Int)=(v:Int):=by
     simp [IntKind.wrap,IntKind.bits,IntKind.signed];omega
    clear hlt hj hvv hv
    go_wp2_with fail
    go_ret3
    exact ⟨by rw [HVV.out];rfl,rfl⟩
theorem take_u8 (w:World) (gr:Nat) (l:List UInt8) (p:Nat) (h:RdAt w gr l p) (hp:p+1≤l.length) :
 Calls Tryz.prog 173 #[.pointer (some ⟨gr,0,none⟩)] w fun e w'=>e=.returned (.int .u8 (valN ((l.drop p).take 1):Nat))∧RdAt w' gr l (p+1)∧w.grownBy w' (some gr):=by
 have HA:=hid (ahead_u8 w gr l p p h hp)
 have HH:=hid h
 obtain ⟨a,n,c,hh,hr,-,hn⟩:=h
 have k1:w.cell? ⟨gr,1,none⟩=some (.int .i64 (p:Int)):=by rw [cell_of_row _ _ _ _ _ _ hh];rfl
 have k2:w.cell? ⟨gr,2,none⟩=some (.int .i64 0):=by rw [cell_of_row _ _ _ _ _ _ hh];rfl
 have f1:=frozen_of_row w gr 1 _ _ hh
 have hp48:p≤1000000000000:=by have:=hr.1;omega
 obtain ⟨v,hv⟩:∃ v,v=valN ((l.drop p).take 1):=⟨_,rfl⟩
 rw [← hv] at HA ⊢
 clear hr hh hv
 go_enter Tryz.func173,Tryz.ntmps173
 go_wp2_with (go_at_call 221;((with_reducible refine HA.out.mono ?_);rintro e w' ⟨rfl,rfl⟩))
 go_ret
 refine ⟨rfl,?_,grown_set (grown_refl w (some gr)) 0 1 _⟩
 have:=HH.out.moved (p+1)
 push_cast at this
 exact this
theorem take_u64 (w:World) (gr:Nat) (l:List UInt8) (p:Nat) (h:RdAt w gr l p) (hp:p+8≤l.length) :
 Calls Tryz.prog 174 #[.pointer (some ⟨gr,0,none⟩)] w fun e w'=>e=.returned (.int .u64 (valN ((l.drop p).take 8):Nat))∧RdAt w' gr l (p+8)∧w.grownBy w' (some gr):=by
 have HA:=hid (ahead_u64 w gr l p p h hp)
 have HH:=hid h
 obtain ⟨a,n,c,hh,hr,-,hn⟩:=h
 have k1:w.cell? ⟨gr,1,none⟩=some (.int .i64 (p:Int)):=by rw [cell_of_row _ _ _ _ _ _ hh];rfl
 have k2:w.cell? ⟨gr,2,none⟩=some (.int .i64 0):=by rw [cell_of_row _ _ _ _ _ _ hh];rfl
 have f1:=frozen_of_row w gr 1 _ _ hh
 have hp48:p≤1000000000000:=by have:=hr.1;omega
 obtain ⟨v,hv⟩:∃ v,v=valN ((l.drop p).take 8):=⟨_,rfl⟩
 rw [← hv] at HA ⊢
 clear hr hh hv
 go_enter Tryz.func174,Tryz.ntmps174
 go_wp2_with (go_at_call 223;((with_reducible refine HA.out.mono ?_);rintro e w' ⟨rfl,rfl⟩))
 go_ret
 refine ⟨rfl,?_,grown_set (grown_refl w (some gr)) 0 1 _⟩
 have:=HH.out.moved (p+8)
 push_cast at this
 exact this
theorem take_u32 (w:World) (gr:Nat) (l:List UInt8) (p:Nat) (h:RdAt w gr l p) (hp:p+4≤l.length) :
 Calls Tryz.prog 176 #[.pointer (some ⟨gr,0,none⟩)] w fun e w'=>e=.returned (.int .u32 (valN ((l.drop p).take 4):Nat))∧RdAt w' gr l (p+4)∧w.grownBy w' (some gr):=by
 have HA:=hid (ahead_u32 w gr l p p h hp)
 have HH:=hid h
 obtain ⟨a,n,c,hh,hr,-,hn⟩:=h
 have k1:w.cell? ⟨gr,1,none⟩=some (.int .i64 (p:Int)):=by rw [cell_of_row _ _ _ _ _ _ hh];rfl
 have k2:w.cell? ⟨gr,2,none⟩=some (.int .i64 0):=by rw [cell_of_row _ _ _ _ _ _ hh];rfl
 have f1:=frozen_of_row w gr 1 _ _ hh
 have hp48:p≤1000000000000:=by have:=hr.1;omega
 obtain ⟨v,hv⟩:∃ v,v=valN ((l.drop p).take 4):=⟨_,rfl⟩
 rw [← hv] at HA ⊢
 clear hr hh hv
 go_enter Tryz.func176,Tryz.ntmps176
 go_wp2_with (go_at_call 225;((with_reducible refine HA.out.mono ?_);rintro e w' ⟨rfl,rfl⟩))
 go_ret
 refine ⟨rfl,?_,grown_set (grown_refl w (some gr)) 0 1 _⟩
 have:=HH.out.moved (p+4)
 push_cast at this
 exact this
end
section
theorem keepR {w3 w4:World} (hb:Below w3.heap.size w3 w4) {b o:Nat} {v:Value} (h:w3.cell? ⟨b,o,none⟩=some v):w4.cell? ⟨b,o,none⟩=some v :=
 (World.cell?_of_block (hb.block b (World.block_lt_of_cell? w3 _ h))).trans h
def RdX (w:World) (gr:Nat) (a:Option Addr) (n c:Nat) (l:List UInt8) (p:Nat):Prop:=w.heap[gr]?=some (.cells #[.slice a n c,.int .i64 (p:Int),.int .i64 0] 319 (0,0))∧R8 w a n c l∧(∀ x,a=some x→0 < n→gr ≠ x.block)∧n≤1000000000000
theorem RdX.rd {w:World} {gr p:Nat} {a:Option Addr} {n c:Nat} {l:List UInt8} (h:RdX w gr a n c l p):RdAt w gr l p:=⟨a,n,c,h⟩
theorem RdX.lt {w:World} {gr p:Nat} {a:Option Addr} {n c:Nat} {l:List UInt8} (h:RdX w gr a n c l p):gr < w.heap.size:=(Array.getElem?_eq_some_iff.1 h.1).1
theorem RdX.grown {w w':World} {gr p q:Nat} {a:Option Addr} {n c:Nat} {l:List UInt8} (h:RdX w gr a n c l p) (hg:w.grownBy w' (some gr)) (hh:w'.heap[gr]?=some (.cells #[.slice a n c,.int .i64 (q:Int),.int .i64 0] 319 (0,0))):RdX w' gr a n c l q :=
 ⟨hh,r8_grown h.2.1 h.2.2.1 hg,h.2.2.1,h.2.2.2⟩
theorem RdX.below {w w':World} {gr p:Nat} {a:Option Addr} {n c:Nat} {l:List UInt8} (h:RdX w gr a n c l p) (hb:Below w.heap.size w w'):RdX w' gr a n c l p :=
 ⟨(hb.block gr h.lt).trans h.1,h.2.1.below hb,h.2.2.1,h.2.2.2⟩
set_option maxHeartbeats 4000000
theorem raw32_any (w:World) (gr:Nat) (a:Option Addr) (n c:Nat) (l:List UInt8) (p:Nat) (h:RdX w gr a n c l p) (hp:p+32≤l.length) :
 Calls Tryz.prog 252 #[.pointer (some ⟨gr,0,none⟩),.int .i64 32] w fun e w'=>∃ a2 c2,e=.returned (.slice a2 32 c2)∧R8 w' a2 32 c2 ((l.drop p).take 32)∧RdX w' gr a n c l (p+32)∧w.grownBy w' (some gr)∧(∀ x,a2=some x→w.heap.size≤x.block):=by
 have HH:=hid h
 obtain ⟨hh,hr,hap,hn⟩:=h
 have hnl:=hr.1
 have k0:w.cell? ⟨gr,0,none⟩=some (.slice a n c):=by rw [cell_of_row _ _ _ _ _ _ hh];rfl
 have k1:w.cell? ⟨gr,1,none⟩=some (.int .i64 (p:Int)):=by rw [cell_of_row _ _ _ _ _ _ hh];rfl
 have k2:w.cell? ⟨gr,2,none⟩=some (.int .i64 0):=by rw [cell_of_row _ _ _ _ _ _ hh];rfl
 have f1:=frozen_of_row w gr 1 _ _ hh
 have hgl:=(Array.getElem?_eq_some_iff.1 hh).1
 have hw1:IntKind.i64.wrap ((n:Int) - (p:Int))=(n:Int) - (p:Int):=IntWalk.i64_in _ (by omega)
 have hgt:decide ((n:Int) - (p:Int) < 32)=false:=by simp;omega
 have HR:=hid hr
 have HAP:=hid hap
 have HB:=hid (show p+32≤n∧n≤1000000000000 from ⟨by omega,hn⟩)
 have hw2:IntKind.i64.wrap ((p:Int)+32)=(p:Int)+32:=IntWalk.i64_in _ (by omega)
 have HHH:=hid hh
 clear hr hap hh hnl hn hp
 go_enter Tryz.func252,Tryz.ntmps252
 go_upto_region 3 with (fail)
 go_quiet (fail)
 clear hw1 hgt k2 hw2
 have hpb:p≤1000000000000:=by have:=HB.out;omega
 go_upto_region 7 with (fail)
 obtain ⟨q,hq⟩:∃ q,q=p+32:=⟨_,rfl⟩
 have hpq:(p:Int)+32=(q:Int):=by omega
 rw [hpq]
 have hh1:=heap_setCell_same (w.drewN nq) gr 1 _ _ (.int .i64 (q:Int)) HHH.out
 have hg1:w.grownBy ((w.drewN nq).setCell ⟨gr,1,none⟩ (.int .i64 (q:Int))) (some gr):=grown_set (grown_refl w (some gr)) nq 1 _
 generalize (w.drewN nq).setCell ⟨gr,1,none⟩ (.int .i64 (q:Int))=w1 at *
 have hh1:w1.heap[gr]?=some (.cells #[.slice a n c,.int .i64 (q:Int),.int .i64 0] 319 (0,0)):=by simpa using hh1
 have l0:w1.cell? ⟨gr,0,none⟩=some (.slice a n c):=by rw [cell_of_row _ _ _ _ _ _ hh1];rfl
 have l1:w1.cell? ⟨gr,1,none⟩=some (.int .i64 (q:Int)):=by rw [cell_of_row _ _ _ _ _ _ hh1];rfl
 have hr1:=r8_grown HR.out HAP.out hg1
 have HM:=hid (hr1.mid p q (by omega) (by have:=HB.out;omega))
 rw [show q - p=32 by omega] at HM
 have hs0:∀ wx,(Instr.slice 53 (.slice a n c) (some (.int .i64 (p:Int))) (some (.int .i64 (q:Int))) none).run Tryz.prog wx=.ok (.slice (dropA a p c) (q - p) (c - p)) wx:=fun wx=>slice_mid (P:=Tryz.prog) sl22 wx a n c p q (p:Int) (q:Int) rfl rfl (by omega) (by have:=HR.out.2.1;have:=HB.out;omega)
 obtain ⟨a2,ha2⟩:∃ a2,a2=dropA a p c:=⟨_,rfl⟩
 obtain ⟨c2,hc2⟩:∃ c2,c2=c - p:=⟨_,rfl⟩
 rw [← ha2,← hc2] at HM
 have hsl:∀ wx,(Instr.slice 53 (.slice a n c) (some (.int .i64 (p:Int))) (some (.int .i64 (q:Int))) none).run Tryz.prog wx=.ok (.slice a2 32 c2) wx:=fun wx=>by
  have:=hs0 wx
  rwa [show q - p=32 by omega,← ha2,← hc2] at this
 have hw3:IntKind.i64.wrap ((q:Int) - 32)=(p:Int):=by rw [← hpq,Int.add_sub_cancel];exact IntWalk.i64_in _ (by omega)
 have HQ:=hid hq
 have HH1:=hid hh1
 have HG1:=hid hg1
 have HZ:=hid (show w.heap.size≤w1.heap.size from hg1.size)
 clear hs0 ha2 hc2 hpq hq hh1 hg1 hr1 k0 k1 f1 hpb
 refine wp_region_held_drew (S:=fun w=>w.cell? ⟨gr,0,none⟩=some (.slice a n c)∧w.cell? ⟨gr,1,none⟩=some (.int .i64 (q:Int))) (by kernel_rfl) ⟨l0,l1⟩ (fun hHeld=>?_)
 apply wpT 0
 apply wpT 1
 apply wpT 2
 apply wpT 3
 apply wpT 4
 apply wpT 5
 apply wpT 6
 apply wpT 7
 apply wpT 8
 apply wpT 9
 apply wpT 10
 apply wpT 11
 apply wpT 12
 apply wpT 13
 apply wpT 14
 apply wpR 15
 intro K hK
 refine S_append8 rfl (.const (.slice none 0 0)) (.tmp 50) 53 (by rfl) sl22 w1.drew.heap.size (.slice none 0 0) 0 [] (by rfl) (World.ownsRow_nil _ _ _ _) a2 32 c2 ((l.drop p).take 32) (by rfl) (show R8 w1.drew a2 32 c2 ((l.drop p).take 32) from HM.out) (by omega) (by simp [maxLen]) (Nat.le_refl _) (fun a3 c3 w3 ho3 hg3 hat3=>?_)
 have hb3:Below w1.heap.size w1 w3:=((Below.refl w1.heap.size w1).drew).grown hg3 (Nat.le_refl _) (by intro k hk;cases hk)
 have m0:=keepR hb3 l0
 have m1:=keepR hb3 l1
 have HO3:=hid ho3
 have HB3:=hid hb3
 clear hg3 hat3 ho3 hb3 hsl hw3
 refine hK.out _ _ ⟨m0,m1⟩ (fun hHeld=>?_)
 clear hK K
 (try simp only [Act.put,List.setIfInBounds_toArray,List.set_cons_zero,List.set_cons_succ,List.getElem_toArray,List.getElem_cons_succ,List.getElem_cons_zero])
 apply wpT 16
 refine wpAnyH_done (by kernel_rfl) ?_ _
 go_wp2_with fail
 go_ret
 have ho:=HO3.out
 simp only [Nat.zero_add,List.nil_append] at ho ⊢
 have hd:w1.drew.heap.size=w1.heap.size:=rfl
 refine ⟨a3,c3,rfl,R8.of_owns ho (by omega),?_,?_,fun x hx=>?_⟩
 · have h2:RdX w1 gr a n c l q:=⟨HH1.out,r8_grown HR.out HAP.out HG1.out,HAP.out,HB.out.2⟩
   rw [← HQ.out]
   exact h2.below HB3.out
 · exact grown_trans HG1.out ⟨HB3.out.os,HB3.out.tape,HB3.out.output,HB3.out.size,fun k hk _=>HB3.out.block k hk⟩
 · have h0:=ho.2
   rcases h0 with ⟨hv,-⟩ | ⟨g,cap,cur,hv,hb0,-⟩
   · have:=(Value.slice.inj hv).1;rw [hx] at this;cases this
   · have:=(Value.slice.inj hv).1;rw [hx] at this;cases this;have:=HZ.out;have h9:w1.heap.size≤g:=hb0;show w.heap.size≤g;omega
end
section
theorem splice_all {α:Type} (cur x:List α) (h:x.length=cur.length):splice cur 0 x=x:=by
 unfold splice
 rw [List.take_zero,List.nil_append,Nat.zero_add,h,List.drop_length,List.append_nil]
set_option maxHeartbeats 4000000
theorem digest_any (w:World) (gr:Nat) (a:Option Addr) (n c:Nat) (l:List UInt8) (p:Nat) (h:RdX w gr a n c l p) (hp:p+32≤l.length) :
 Calls Tryz.prog 224 #[.pointer (some ⟨gr,0,none⟩)] w fun e w'=>e=.returned (.agg (dgA ((l.drop p).take 32)))∧RdX w' gr a n c l (p+32)∧w.grownBy w' (some gr):=by
 have HH:=hid h
 have hgl:=h.lt
 have HP:=hid hp
 obtain ⟨E,hE⟩:∃ E,E=dgA ((l.drop p).take 32):=⟨_,rfl⟩
 have hdl:((l.drop p).take 32).length=32:=by rw [List.length_take,List.length_drop];omega
 have HDL:=hid hdl
 have HE:=hid hE
 have HES:=hid (show E.size=32 by rw [hE,dgA_size,hdl])
 have HE1:=hid (show E.all (·.oneCell')=true by rw [hE];exact dgA_all _)
 clear hE h hp hdl
 go_enter Tryz.func224,Tryz.ntmps224
 go_upto_region 2 with (fail)
 obtain ⟨o1,ho1⟩:∃ o1:Obj,o1=.cells #[.int .u8 0,.int .u8 0,.int .u8 0,.int .u8 0,.int .u8 0,.int .u8 0,.int .u8 0,.int .u8 0,.int .u8 0,.int .u8 0,.int .u8 0,.int .u8 0,.int .u8 0,.int .u8 0,.int .u8 0,.int .u8 0,.int .u8 0,.int .u8 0,.int .u8 0,.int .u8 0,.int .u8 0,.int .u8 0,.int .u8 0,.int .u8 0,.int .u8 0,.int .u8 0,.int .u8 0,.int .u8 0,.int .u8 0,.int .u8 0,.int .u8 0,.int .u8 0] 38:=⟨_,rfl⟩
 rw [← ho1]
 have hb1:Below w.heap.size w ((w.alloc o1).alloc o1):=((Below.refl _ _).alloc (Nat.le_refl _) _).alloc (by simp) _
 have hg1:((w.alloc o1).alloc o1).heap[w.heap.size]?=some o1:=heap_alloc2_old w _ _
 have hg3:((w.alloc o1).alloc o1).heap[w.heap.size+1]?=some o1:=heap_alloc2_new w _ _
 have hz1:((w.alloc o1).alloc o1).heap.size=w.heap.size+2:=by simp
 generalize (w.alloc o1).alloc o1=w1 at *
 obtain ⟨rb,hrb⟩:∃ rb,rb=w.heap.size:=⟨_,rfl⟩
 obtain ⟨g3,hg3e⟩:∃ g3,g3=w.heap.size+1:=⟨_,rfl⟩
 rw [← hg3e] at hg3
 rw [← hrb] at hg1
 rw [← hg3e,← hrb]
 have HB1:=hid hb1;have HG1:=hid hg1;have HZ1:=hid hz1;have HOO:=hid ho1;have HG3:=hid hg3
 have HRR:=hid (show rb=w.heap.size∧g3=w.heap.size+1 from ⟨hrb,hg3e⟩)
 have HRW:=hid (raw32_any w1.drew gr a n c l p (show RdX w1 gr a n c l p from HH.out.below HB1.out) HP.out)
 clear hb1 hg1 hz1 ho1 hg3 hrb hg3e
 refine wp_region_held_drew (S:=fun _=>True) (by kernel_rfl) trivial (fun hHeld=>?_)
 apply wpT 0
 apply wpT 1
 apply wpR 2
 intro K hK
 go_simp
 refine HRW.out.mono ?_
 rintro e w4 ⟨a2,c2,rfl,hr4,hrd4,hg4,hfar⟩
 have hg4:w1.grownBy w4 (some gr):=⟨hg4.os,hg4.tape,hg4.output,hg4.size,hg4.block⟩
 obtain ⟨q1,q2⟩:=HRR.out
 have h43:w4.heap[g3]?=some (.cells (List.replicate 32 (b8 0)).toArray 38 (0,0)):=by
  rw [hg4.block g3 (by have:=HZ1.out;omega) (fun e=>by have:=Option.some.inj e;omega),HG3.out,HOO.out];rfl
 have HG4:=hid hg4;have HR4:=hid hr4;have HRD4:=hid hrd4;have H43:=hid h43
 have HFAR:=hid hfar
 clear hg4 hr4 hrd4 hfar h43 q1 q2
 apply bk hK
 · exact trivial
 intro hHeld
 clear hK K
 apply wpR 3
 intro K hK
 refine S_copyIn rfl (.tmp 4) (.tmp 6) 53 53 (by rfl) sl22 g3 0 32 32 (by rfl) (List.replicate 32 (b8 0)) 38 H43.out (by simp) a2 32 c2 ((l.drop p).take 32) (by rfl) HR4.out (fun w5 hb5 hg5=>?_)
 rw [List.take_of_length_le (by rw [HDL.out];exact Nat.le_refl _),splice_all _ _ (by rw [List.length_map,HDL.out,List.length_replicate])] at hb5
 have hE5:w5.heap[g3]?=some (.cells E 38 (0,0)):=by rw [HE.out];exact hb5
 have HE5:=hid hE5;have HG5:=hid hg5
 clear hb5 hg5 hE5
 apply bk hK
 · exact trivial
 intro hHeld
 clear hK K
 refine wpAnyH_done (by kernel_rfl) ?_ _
 have ho5:w5.heap[rb]?=some o1:=by
  obtain ⟨q1,q2⟩:=HRR.out
  rw [HG5.out.block rb (by have:=HG4.out.size;have:=HZ1.out;omega) (fun e=>by have:=Option.some.inj e;omega),HG4.out.block rb (by have:=HZ1.out;omega) (fun e=>by have:=Option.some.inj e;omega)]
  exact HG1.out
 have HO:=hid ho5
 clear ho5
 have hO:=HO.out
 rw [HOO.out] at hO
 have HTH:=hid (there_block hO)
 have HGF:=hid (setCells_all hO E.toList (by rw [Array.length_toList,HES.out];rfl))
 clear hO
 go_upto_region 3 with (fail)
 refine wp_region_lit ?_
 refine wpList_load_row rfl 38 (.tmp 3) (by rfl) g3 (by rfl) 38 E (0,0) _ HE5.out Tryz.underlying38 rfl (by rw [HES.out];exact info38) ?_
 refine wpList_store_mid rfl 38 (.tmp 2) (.tmp 8) (by rfl) rb 0 E (by rfl) (by rfl) (by rw [HES.out];exact HTH.out) (by rw [HES.out];exact info38) HE1.out ?_
 have HGS:=hid (setCells_grown rb E.toList 0 w5)
 generalize w5.setCells rb 0 E.toList=w9 at *
 have HGF9:=hid (show w9.heap[rb]?=some (.cells E 38 (0,0)) by have:=HGF.out;simpa using this)
 clear HTH HGF
 go_wp2_with fail
 refine bodyPost_ret (v:=.agg E) (results_cell_row (p:=2) (ty:=38) rfl _ _ rb 38 E (0,0) _ rfl HGF9.out Tryz.underlying38 rfl (by rw [HES.out];exact info38)) rfl ⟨by rw [HE.out],?_,?_⟩
 · obtain ⟨q1,q2⟩:=HRR.out
   have hs4:=HG4.out.size
   have hs5:=HG5.out.size
   have hz:=HZ1.out
   refine HH.out.grown (p:=p) (q:=p+32) ⟨HGS.out.os.trans (HG5.out.os.trans (HG4.out.os.trans HB1.out.os)),HGS.out.tape.trans (HG5.out.tape.trans (HG4.out.tape.trans HB1.out.tape)),HGS.out.output.trans (HG5.out.output.trans (HG4.out.output.trans HB1.out.output)),by have:=HGS.out.size;omega,fun k hk hne=>?_⟩ ?_
   · exact (HGS.out.block k (by omega) (fun e=>by have:=Option.some.inj e;omega)).trans ((HG5.out.block k (by omega) (fun e=>by have:=Option.some.inj e;omega)).trans ((HG4.out.block k (by omega) hne).trans (HB1.out.block k hk)))
   · exact (HGS.out.block gr (by omega) (fun e=>by have:=Option.some.inj e;omega)).trans ((HG5.out.block gr (by omega) (fun e=>by have:=Option.some.inj e;omega)).trans HRD4.out.1)
 · obtain ⟨q1,q2⟩:=HRR.out
   have hs4:=HG4.out.size
   have hs5:=HG5.out.size
   have hz:=HZ1.out
   exact ⟨HGS.out.os.trans (HG5.out.os.trans (HG4.out.os.trans HB1.out.os)),HGS.out.tape.trans (HG5.out.tape.trans (HG4.out.tape.trans HB1.out.tape)),HGS.out.output.trans (HG5.out.output.trans (HG4.out.output.trans HB1.out.output)),by have:=HGS.out.size;omega,fun k hk hne=>(HGS.out.block k (by omega) (fun e=>by have:=Option.some.inj e;omega)).trans ((HG5.out.block k (by omega) (fun e=>by have:=Option.some.inj e;omega)).trans ((HG4.out.block k (by omega) hne).trans (HB1.out.block k hk)))⟩
end
end Go.Proofs.YtgkehahklccacaaGreatDoor
