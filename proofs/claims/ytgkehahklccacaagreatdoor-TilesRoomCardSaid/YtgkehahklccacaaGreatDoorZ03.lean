import Derived.Test.YtgkehahklccacaaGreatDoorZ02
import Derived.Deep.RegionHeld3
import Derived.Deep.AppendLies
namespace Go.Proofs.YtgkehahklccacaaGreatDoor
open Go Go.RowKit
open Go.Lib (hid)
set_option maxRecDepth 100000
set_option maxHeartbeats 1000000
set_option linter.unusedVariables false
set_option linter.unusedSimpArgs false
section
theorem ofInt32 (x:UInt32):BitVec.ofInt 32 (x.toNat:Int)=x.toBitVec:=by
 rw [BitVec.ofInt_natCast];simp
theorem wrap_u32_nat {n:Nat} (h:n < 4294967296):IntKind.u32.wrap (n:Int)=n:=by
 simp [IntKind.wrap,IntKind.bits,IntKind.signed];omega
/- The operations on words, behind plain names: simp would carry 'toNat' inward. -/
def xr (x y:UInt32):UInt32:=x ^^^ y
def xb (x:UInt32) (c:UInt8):UInt32:=x ^^^ c.toUInt32
def a15 (x:UInt32):UInt32:=x &&& 15
def s4 (x:UInt32):UInt32:=x >>> 4
def nt (x:UInt32):UInt32:= ~~~ x
@[go_sem] theorem xor_u32 (x y:UInt32):bits .xor .u32 (x.toNat:Int) (y.toNat:Int)=((xr x y).toNat:Int):=by
  simp only [bits,IntKind.bits,ofInt32]
  rw [wrap_u32_nat (BitVec.isLt _)];rfl
@[go_sem] theorem xor_u32_u8 (x:UInt32) (c:UInt8):bits .xor .u32 (x.toNat:Int) (c.toNat:Int)=((xb x c).toNat:Int):=by
  rw [show (c.toNat:Int)=(c.toUInt32.toNat:Int) by simp];exact xor_u32 _ _
@[go_sem] theorem and15_u32 (x:UInt32):bits .and .u32 (x.toNat:Int) 15=((a15 x).toNat:Int):=by
  simp only [bits,IntKind.bits,ofInt32]
  rw [show BitVec.ofInt 32 15=(15:UInt32).toBitVec from rfl,wrap_u32_nat (BitVec.isLt _)];rfl
@[go_sem] theorem shr4_u32 (x:UInt32):(x.toNat:Int) / 16=((s4 x).toNat:Int):=by
  simp [s4,Nat.shiftRight_eq_div_pow]
@[go_sem] theorem u8_u32 (x:UInt8):(x.toNat:Int) % 4294967296=(x.toNat:Int):=by
  have:=x.toNat_lt
  omega
@[go_sem] theorem mod_u32 (x:UInt32):(x.toNat:Int) % 4294967296=(x.toNat:Int):=by
  have:=x.toNat_lt
  omega
@[go_sem] theorem not_u32 (x:UInt32):bits .xor .u32 IntKind.u32.max (x.toNat:Int)=((nt x).toNat:Int):=by
  simp only [bits,IntKind.bits,ofInt32]
  rw [show BitVec.ofInt 32 IntKind.u32.max=BitVec.allOnes 32 from rfl,wrap_u32_nat (BitVec.isLt _)]
  have e:(BitVec.allOnes 32 ^^^ x.toBitVec)= ~~~ x.toBitVec:=BitVec.allOnes_xor
  exact congrArg (fun b:BitVec 32=>(b.toNat:Int)) e
@[go_sem] theorem a15_lt (x:UInt32):(((a15 x).toNat:Int) < 16)=True:=by
  have h:(a15 x).toNat < 16:=by
   rw [a15,UInt32.toNat_and]
   exact Nat.lt_succ_of_le Nat.and_le_right
  simp only [eq_iff_iff,iff_true];omega
def halfL:List UInt32:=[0x00000000,0x1db71064,0x3b6e20c8,0x26d930ac,0x76dc4190,0x6b6b51f4,0x4db26158,0x5005713c,
 0xedb88320,0xf00f9344,0xd6d6a3e8,0xcb61b38c,0x9b64c2b0,0x86d3d2d4,0xa00ae278,0xbdbdf21c]
def half (i:UInt32):UInt32:=halfL.getD i.toNat 0
def nib (r:UInt32):UInt32:=xr (s4 r) (half (a15 r))
def byteStep (r:UInt32) (c:UInt8):UInt32:=nib (nib (xb r c))
def thr (r:UInt32) (l:List UInt8):UInt32:=l.foldl byteStep r
def HalfTab (w:World):Prop:=∀ i,i < 16→w.cell? ⟨2,i,none⟩=some (.int .u32 ((halfL.getD i 0).toNat:Int))
theorem HalfTab.get {w:World} (h:HalfTab w) (x:UInt32):w.cell? ⟨2,(a15 x).toNat,none⟩=some (.int .u32 ((half (a15 x)).toNat:Int)):=by
 refine h _ ?_
 have:=of_eq_true (a15_lt x)
 omega
theorem thr_take (r:UInt32) (l:List UInt8) (k:Nat) (c:UInt8) (h:l[k]?=some c):thr r (l.take (k+1))=nib (nib (xb (thr r (l.take k)) c)):=by
 rw [List.take_add_one,h];simp [thr,byteStep]
theorem nib_fold (r:UInt32):xr (s4 r) (half (a15 r))=nib r:=rfl
set_option maxHeartbeats 400000 in
theorem through_any (w:World) (r:UInt32) (a:Option Addr) (len cap:Nat) (l:List UInt8) (h:R8 w a len cap l) (ht:HalfTab w) :
 Calls Tryz.prog 212 #[.int .u32 (r.toNat:Int),.slice a len cap] w fun e w'=>e=.returned (.int .u32 ((thr r l).toNat:Int))∧w=w':=by
 have hm:len≤281474976710656:=h.2.2.1
 have ht':=ht.get
 have hnib:=nib_fold
 go_enter Tryz.func212,Tryz.ntmps212
 go_wp2
 go_loop [0,9] (fun x i=>∃ k:Nat,k≤len∧i=.int .i64 k∧x=.int .u32 ((thr r (l.take k)).toNat:Int)) (fun _ i=>len - (intOf i).toNat)
 case atStart=>exact ⟨0,by omega,rfl,rfl⟩
 case round => 
  obtain ⟨k,hk,rfl,rfl⟩:=hrel
  by_cases hlt:k < len
  · obtain ⟨b,off,c,rfl,hl,hck⟩:=h.at hlt
    have hs:=(thr_take r l k c hl).symm
    clear h
    go_wp2
    go_round
    case rel=>exact ⟨k+1,by omega,by go_num,rfl⟩
    case measure=>simp [intOf];omega
  · obtain rfl:k=len:=by omega
    have ht:l.take k=l:=by rw [← h.1];simp
    rw [ht]
    go_wp2
    go_ret
    exact ⟨rfl,rfl⟩
set_option maxHeartbeats 400000 in
theorem crc_any (w:World) (a:Option Addr) (len cap:Nat) (l:List UInt8) (h:R8 w a len cap l) (ht:HalfTab w) :
 Calls Tryz.prog 162 #[.slice a len cap] w fun e w'=>e=.returned (.int .u32 ((nt (thr 4294967295 l)).toNat:Int))∧w=w':=by
 go_enter Tryz.func162,Tryz.ntmps162
 go_wp2_with (go_at_call 212;refine (through_any _ 4294967295 _ _ _ _ h ht).mono ?_;rintro e w' ⟨rfl,rfl⟩)
 go_ret
 exact ⟨rfl,rfl⟩
theorem sl22:Sl Tryz.prog 53 5 (.int .u8 0) 1 1:=⟨Tryz.underlying53,by kernel_rfl,rfl,by decide⟩
def Wr (w:World) (B gw:Nat) (l:List UInt8):Prop :=
 B≤gw∧∃ v,w.heap[gw]?=some (.cells #[v] 308 (0,0))∧w.ownsRow B 5 1 v l.length (l.map b8)
def be (k n:Nat):List UInt8:=(List.range k).map fun j=>UInt8.ofNat (n / 2 ^ (8 * (k - 1 - j)))
theorem be_len (k n:Nat):(be k n).length=k:=by simp [be]
theorem be_take (k n j:Nat) (h:j < k):(be k n).take (j+1)=(be k n).take j++[UInt8.ofNat (n / 2 ^ (8 * (k - 1 - j)))]:=by
 rw [List.take_add_one]
 simp [be,h]
theorem wrap_byte (n s:Nat):IntKind.u8.wrap ((n:Int) / 2 ^ s)=((UInt8.ofNat (n / 2 ^ s)).toNat:Int):=by
 simp [IntKind.wrap,IntKind.bits,IntKind.signed]
theorem own_neW {w:World} {B e t gw size:Nat} {v u:Value} {n:Nat} {xs:List Value} {fr:Nat × Nat} (ho:w.ownsRow B e size v n xs) (hh:w.heap[gw]?=some (.cells #[u] t fr)) (hne:t ≠ e):some gw ≠ v.ownBlock:=by
 rcases ho.2 with ⟨rfl,_⟩ | ⟨g,cap,cur,rfl,_,hg,_⟩
 · simp [Value.ownBlock]
 · simp only [Value.ownBlock]
   rintro h
   obtain rfl:=Option.some.inj h
   rw [hh] at hg
   simp at hg
   exact hne hg.2.1
theorem width_pos (n:Nat) (h:0 < n):0 < 2 ^ (8 * n) - 1:=by
 have:2 ^ 1≤2 ^ (8 * n):=Nat.pow_le_pow_right (by omega) (by omega)
 omega
theorem width_step (n i:Nat) (h:0 < n) (hi:i < 8):(2 ^ (8 * n - i) - 1) / 2=2 ^ (8 * n - (i+1)) - 1:=by
 have e:8 * n - i=(8 * n - (i+1))+1:=by omega
 rw [e,Nat.pow_succ];omega
theorem new_any (w:World):Calls Tryz.prog 157 #[] w fun e w'=>∃ gw,e=.returned (.pointer (some ⟨gw,0,none⟩))∧Wr w' w.heap.size gw []∧Below w.heap.size w w':=by
 go_enter Tryz.func157,Tryz.ntmps157
 go_wp2
 go_ret
 exact ⟨_,rfl,⟨Nat.le_refl _,_,heap_alloc_new w _,World.ownsRow_nil _ _ _ _⟩,(Below.refl _ _).alloc (Nat.le_refl _) _⟩
theorem width8 (w:World):Calls Tryz.prog 209 #[] w fun e w'=>e=.returned (.int .i64 1)∧w=w':=by
 go_enter Tryz.func209,Tryz.ntmps209
 have hmx:bits .xor .u8 IntKind.u8.max 0=((2 ^ (8 * 1) - 1:Nat):Int):=by decide +kernel
 go_wp2
 go_loop [1,2,9] (fun n m i=>∃ j:Nat,j≤1∧n=.int .i64 j∧m=.int .u8 ((2 ^ (8 * (1 - j)) - 1:Nat):Int)) (fun n _ _=>1 - (intOf n).toNat)
 case atStart=>exact ⟨0,by omega,rfl,rfl⟩
 case round =>
  obtain ⟨j,hj,rfl,rfl⟩:=hrel
  by_cases hlt:j < 1
  · have hp:=width_pos (1 - j) (by omega)
    have hst:=fun i (hi:i < 8)=>width_step (1 - j) i (by omega) hi
    have hne:(((2 ^ (8 * (1 - j)) - 1:Nat):Int) == 0)=false:=by simp;omega
    have hnn:(((2 ^ (8 * (1 - j)) - 1:Nat):Int) != 0)=true:=by simp;omega
    have hfin:2 ^ (8 * (1 - j) - 8) - 1=2 ^ (8 * (1 - (j+1))) - 1:=by rw [show 8 * (1 - j) - 8=8 * (1 - (j+1)) by omega]
    have Hst:=hid hst;clear hst
    have Hfin:=hid hfin;clear hfin
    have h0:2 ^ (8 * (1 - j)) - 1=2 ^ (8 * (1 - j) - 0) - 1:=rfl
    generalize 8 * (1 - j)=q at *
    go_wp2
    go_loop [2,9] (fun m i=>∃ t:Nat,t≤8∧i=.int .i64 t∧m=.int .u8 ((2 ^ (q - t) - 1:Nat):Int)) (fun _ i=>8 - (intOf i).toNat)
    case atStart=>exact ⟨0,by omega,rfl,rfl⟩
    case round =>
     obtain ⟨t,ht,rfl,rfl⟩:=hrel
     by_cases h8:t < 8
     · have hs:=Hst.out t h8
       generalize 2 ^ (q - t) - 1=x at *
       go_wp2
       go_round
       case rel=>exact ⟨t+1,by omega,by go_num,by rw [← hs];go_num⟩
       case measure=>simp [intOf];omega
     · obtain rfl:t=8:=by omega
       rw [Hfin.out]
       go_wp2
       go_round
       case rel=>exact ⟨j+1,by omega,by go_num,rfl⟩
       case measure=>simp [intOf];omega
  · obtain rfl:j=1:=by omega
    go_wp2
    go_ret
    exact ⟨rfl,rfl⟩
theorem width32 (w:World):Calls Tryz.prog 211 #[] w fun e w'=>e=.returned (.int .i64 4)∧w=w':=by
 go_enter Tryz.func211,Tryz.ntmps211
 have hmx:bits .xor .u32 IntKind.u32.max 0=((2 ^ (8 * 4) - 1:Nat):Int):=by decide +kernel
 go_wp2
 go_loop [1,2,9] (fun n m i=>∃ j:Nat,j≤4∧n=.int .i64 j∧m=.int .u32 ((2 ^ (8 * (4 - j)) - 1:Nat):Int)) (fun n _ _=>4 - (intOf n).toNat)
 case atStart=>exact ⟨0,by omega,rfl,rfl⟩
 case round =>
  obtain ⟨j,hj,rfl,rfl⟩:=hrel
  by_cases hlt:j < 4
  · have hp:=width_pos (4 - j) (by omega)
    have hst:=fun i (hi:i < 8)=>width_step (4 - j) i (by omega) hi
    have hne:(((2 ^ (8 * (4 - j)) - 1:Nat):Int) == 0)=false:=by simp;omega
    have hnn:(((2 ^ (8 * (4 - j)) - 1:Nat):Int) != 0)=true:=by simp;omega
    have hfin:2 ^ (8 * (4 - j) - 8) - 1=2 ^ (8 * (4 - (j+1))) - 1:=by rw [show 8 * (4 - j) - 8=8 * (4 - (j+1)) by omega]
    have Hst:=hid hst;clear hst
    have Hfin:=hid hfin;clear hfin
    have h0:2 ^ (8 * (4 - j)) - 1=2 ^ (8 * (4 - j) - 0) - 1:=rfl
    generalize 8 * (4 - j)=q at *
    go_wp2
    go_loop [2,9] (fun m i=>∃ t:Nat,t≤8∧i=.int .i64 t∧m=.int .u32 ((2 ^ (q - t) - 1:Nat):Int)) (fun _ i=>8 - (intOf i).toNat)
    case atStart=>exact ⟨0,by omega,rfl,rfl⟩
    case round =>
     obtain ⟨t,ht,rfl,rfl⟩:=hrel
     by_cases h8:t < 8
     · have hs:=Hst.out t h8
       generalize 2 ^ (q - t) - 1=x at *
       go_wp2
       go_round
       case rel=>exact ⟨t+1,by omega,by go_num,by rw [← hs];go_num⟩
       case measure=>simp [intOf];omega
     · obtain rfl:t=8:=by omega
       rw [Hfin.out]
       go_wp2
       go_round
       case rel=>exact ⟨j+1,by omega,by go_num,rfl⟩
       case measure=>simp [intOf];omega
  · obtain rfl:j=4:=by omega
    go_wp2
    go_ret
    exact ⟨rfl,rfl⟩
theorem width64 (w:World):Calls Tryz.prog 210 #[] w fun e w'=>e=.returned (.int .i64 8)∧w=w':=by
 go_enter Tryz.func210,Tryz.ntmps210
 have hmx:bits .xor .u64 IntKind.u64.max 0=((2 ^ (8 * 8) - 1:Nat):Int):=by decide +kernel
 go_wp2
 go_loop [1,2,9] (fun n m i=>∃ j:Nat,j≤8∧n=.int .i64 j∧m=.int .u64 ((2 ^ (8 * (8 - j)) - 1:Nat):Int)) (fun n _ _=>8 - (intOf n).toNat)
 case atStart=>exact ⟨0,by omega,rfl,rfl⟩
 case round =>
  obtain ⟨j,hj,rfl,rfl⟩:=hrel
  by_cases hlt:j < 8
  · have hp:=width_pos (8 - j) (by omega)
    have hst:=fun i (hi:i < 8)=>width_step (8 - j) i (by omega) hi
    have hne:(((2 ^ (8 * (8 - j)) - 1:Nat):Int) == 0)=false:=by simp;omega
    have hnn:(((2 ^ (8 * (8 - j)) - 1:Nat):Int) != 0)=true:=by simp;omega
    have hfin:2 ^ (8 * (8 - j) - 8) - 1=2 ^ (8 * (8 - (j+1))) - 1:=by rw [show 8 * (8 - j) - 8=8 * (8 - (j+1)) by omega]
    have Hst:=hid hst;clear hst
    have Hfin:=hid hfin;clear hfin
    have h0:2 ^ (8 * (8 - j)) - 1=2 ^ (8 * (8 - j) - 0) - 1:=rfl
    generalize 8 * (8 - j)=q at *
    go_wp2
    go_loop [2,9] (fun m i=>∃ t:Nat,t≤8∧i=.int .i64 t∧m=.int .u64 ((2 ^ (q - t) - 1:Nat):Int)) (fun _ i=>8 - (intOf i).toNat)
    case atStart=>exact ⟨0,by omega,rfl,rfl⟩
    case round =>
     obtain ⟨t,ht,rfl,rfl⟩:=hrel
     by_cases h8:t < 8
     · have hs:=Hst.out t h8
       generalize 2 ^ (q - t) - 1=x at *
       go_wp2
       go_round
       case rel=>exact ⟨t+1,by omega,by go_num,by rw [← hs];go_num⟩
       case measure=>simp [intOf];omega
     · obtain rfl:t=8:=by omega
       rw [Hfin.out]
       go_wp2
       go_round
       case rel=>exact ⟨j+1,by omega,by go_num,rfl⟩
       case measure=>simp [intOf];omega
  · obtain rfl:j=8:=by omega
    go_wp2
    go_ret
    exact ⟨rfl,rfl⟩
set_option maxHeartbeats 1000000 in
theorem put64_any (w:World) (B gw:Nat) (l:List UInt8) (n:UInt64) (h:Wr w B gw l) (hb:l.length≤1000000000000) (hB:B≤w.heap.size) :
 Calls Tryz.prog 159 #[.pointer (some ⟨gw,0,none⟩),.int .u64 (n.toNat:Int)] w fun e w'=>e=.returned (.tuple #[])∧Wr w' B gw (l++be 8 n.toNat)∧Below B w w':=by
 go_enter Tryz.func159,Tryz.ntmps159
 go_wp2_with (go_at_call 210;refine (width64 _).mono ?_;rintro e w' ⟨rfl,rfl⟩)
 go_loopw [4] (fun i wr=>∃ j:Nat,j≤8∧i=.int .i64 (7 - (j:Int))∧Wr wr B gw (l++(be 8 n.toNat).take j)∧Below B w wr) (fun i _=>(intOf i+1).toNat)
 case atStart=>exact ⟨0,by omega,rfl,by simpa using h,Below.refl _ _⟩
 case round =>
  obtain ⟨j,hj,rfl,⟨hgw,v,hh,ho⟩,hbl⟩:=hrel
  by_cases hlt:j < 8
  · have hsz:=hbl.size
    have hc:=cell_of_row wr gw 0 _ _ _ hh
    have hf:=frozen_of_row wr gw 0 _ _ hh
    have hlt2:=block_lt_of_cell hc
    simp only [List.getElem?_toArray,List.getElem?_cons_zero] at hc
    obtain ⟨q,hq⟩:∃ q:Nat,q=7 - j:=⟨_,rfl⟩
    have hq1:((7:Int) - (j:Int))=(q:Int):=by omega
    have hqq:=hid hq
    have hq8:q < 8:=by omega
    have hbt:=be_take 8 n.toNat j hlt
    rw [show 8 - 1 - j=q by omega] at hbt
    have HBT:=hid hbt
    have hlen:(l++(be 8 n.toNat).take j).length≤1000000000008:=by simp [be_len];omega
    rw [hq1]
    clear h hq hq1 hbt
    have hw1:IntKind.i64.wrap (8 * (q:Int))=8 * (q:Int):=by simp [IntKind.wrap,IntKind.bits,IntKind.signed];omega
    have hp0:(0:Int)≤8 * (q:Int):=by omega
    have hp1:8 * (q:Int)≤64:=by omega
    have hp2:(8 * (q:Int)).toNat=8 * q:=by omega
    have hwb:=wrap_byte n.toNat (8 * q)
    generalize hLL:l++(be 8 n.toNat).take j=L at *
    have HLL:=hid hLL;clear hLL
    generalize hcc:UInt8.ofNat (n.toNat / 2 ^ (8 * q))=c at *
    have HCC:=hid hcc;clear hcc
    go_wp2
    have hca:∀ o,(wr.alloc o).cell? ⟨gw,0,none⟩=some v∧(wr.alloc o).frozen? ⟨gw,0,none⟩=false:=fun o =>
     ⟨by rw [World.cell?_alloc_past (hn:=hlt2)];exact hc,by rw [World.frozen?_alloc_past (hn:=hlt2)];exact hf⟩
    have hne:=own_neW ho hh (by decide)
    go_region_law (first
     | (refine S_append8 rfl (.tmp 17) (.tmp 23) 53 (by rfl) sl22 B v _ _ (by rfl) (ho.alloc _) (some ⟨wr.heap.size,0,none⟩) 1 1 [c] (by rfl) (R8.lit _ 5 _ [c] 1 rfl (by omega) _ rfl) (by omega) (by simp [maxLen];omega) (by simp;omega) (fun a2 c2 w2 ho2 hg2 hat2=>?_)
        have hc2:=(hg2.cell_far ⟨gw,0,none⟩ (by simp;omega) hne).trans (hca _).1
        have hf2:=(hg2.frozen_far ⟨gw,0,none⟩ (by simp;omega) hne).trans (hca _).2))
    all_goals
     have hh2:w2.heap[gw]?=some (.cells #[v] 308 (0,0)):=(hg2.block gw (by simp;omega) hne).trans ((Below.heap_alloc _ _ _ hlt2).trans hh)
     have hne2:=own_neW ho2 hh2 (by decide)
     have hh3:=heap_setCell_same w2 gw 0 _ _ (.slice a2 (L.length+1) c2) hh2
     have hgs:w2.grownBy (w2.setCell ⟨gw,0,none⟩ (.slice a2 (L.length+1) c2)) (some gw):=⟨rfl,rfl,rfl,by simp,fun k _ hk=>heap_setCell_other w2 ⟨gw,0,none⟩ k _ (fun e=>hk (by simp [e]))⟩
     have ho3:=ho2.kept hgs (.inr (fun e=>hne2 e.symm))
     have hbl3:Below B w (w2.setCell ⟨gw,0,none⟩ (.slice a2 (L.length+1) c2)):=(((hbl.alloc (by omega) _).drew).grown hg2 (by simp;omega) (fun k hk=>(ho.lt k hk).1)).setCell hgw _
     clear hgs hne2 hh2 ho2 hg2 hat2 hc2 hf2 hca hne
     go_wp2
     go_roundw
     case rel =>
      refine ⟨j+1,by omega,by rw [show ((q:Int) - 1)=7 - ((j+1:Nat):Int) from by have:=hqq.out;omega],⟨hgw,_,hh3,?_⟩,hbl3⟩
      rw [HBT.out,← List.append_assoc,HLL.out]
      simpa using ho3
     case measure=>simp [intOf]
  · obtain rfl:j=8:=by omega
    have hfull:(be 8 n.toNat).take 8=be 8 n.toNat:=List.take_of_length_le (by rw [be_len];omega)
    rw [hfull] at ho
    have Hh:=hid hh
    clear hh
    go_wp2
    go_end0
    exact ⟨rfl,⟨hgw,v,Hh.out,ho⟩,hbl⟩
set_option maxHeartbeats 1000000 in
theorem put32_any (w:World) (B gw:Nat) (l:List UInt8) (n:UInt32) (h:Wr w B gw l) (hb:l.length≤1000000000000) (hB:B≤w.heap.size) :
 Calls Tryz.prog 161 #[.pointer (some ⟨gw,0,none⟩),.int .u32 (n.toNat:Int)] w fun e w'=>e=.returned (.tuple #[])∧Wr w' B gw (l++be 4 n.toNat)∧Below B w w':=by
 go_enter Tryz.func161,Tryz.ntmps161
 go_wp2_with (go_at_call 211;refine (width32 _).mono ?_;rintro e w' ⟨rfl,rfl⟩)
 go_loopw [4] (fun i wr=>∃ j:Nat,j≤4∧i=.int .i64 (3 - (j:Int))∧Wr wr B gw (l++(be 4 n.toNat).take j)∧Below B w wr) (fun i _=>(intOf i+1).toNat)
 case atStart=>exact ⟨0,by omega,rfl,by simpa using h,Below.refl _ _⟩
 case round =>
  obtain ⟨j,hj,rfl,⟨hgw,v,hh,ho⟩,hbl⟩:=hrel
  by_cases hlt:j < 4
  · have hsz:=hbl.size
    have hc:=cell_of_row wr gw 0 _ _ _ hh
    have hf:=frozen_of_row wr gw 0 _ _ hh
    have hlt2:=block_lt_of_cell hc
    simp only [List.getElem?_toArray,List.getElem?_cons_zero] at hc
    obtain ⟨q,hq⟩:∃ q:Nat,q=3 - j:=⟨_,rfl⟩
    have hq1:((3:Int) - (j:Int))=(q:Int):=by omega
    have hqq:=hid hq
    have hq8:q < 8:=by omega
    have hbt:=be_take 4 n.toNat j hlt
    rw [show 4 - 1 - j=q by omega] at hbt
    have HBT:=hid hbt
    have hlen:(l++(be 4 n.toNat).take j).length≤1000000000008:=by simp [be_len];omega
    rw [hq1]
    clear h hq hq1 hbt
    have hw1:IntKind.i64.wrap (8 * (q:Int))=8 * (q:Int):=by simp [IntKind.wrap,IntKind.bits,IntKind.signed];omega
    have hp0:(0:Int)≤8 * (q:Int):=by omega
    have hp1:8 * (q:Int)≤64:=by omega
    have hp2:(8 * (q:Int)).toNat=8 * q:=by omega
    have hwb:=wrap_byte n.toNat (8 * q)
    have hcv:IntKind.u64.wrap (n.toNat:Int)=(n.toNat:Int):=by
     have:=n.toNat_lt
     simp [IntKind.wrap,IntKind.bits,IntKind.signed];omega
    generalize hLL:l++(be 4 n.toNat).take j=L at *
    have HLL:=hid hLL;clear hLL
    generalize hcc:UInt8.ofNat (n.toNat / 2 ^ (8 * q))=c at *
    have HCC:=hid hcc;clear hcc
    go_wp2
    have hca:∀ o,(wr.alloc o).cell? ⟨gw,0,none⟩=some v∧(wr.alloc o).frozen? ⟨gw,0,none⟩=false:=fun o =>
     ⟨by rw [World.cell?_alloc_past (hn:=hlt2)];exact hc,by rw [World.frozen?_alloc_past (hn:=hlt2)];exact hf⟩
    have hne:=own_neW ho hh (by decide)
    go_region_law (first
     | (refine S_append8 rfl (.tmp 17) (.tmp 24) 53 (by rfl) sl22 B v _ _ (by rfl) (ho.alloc _) (some ⟨wr.heap.size,0,none⟩) 1 1 [c] (by rfl) (R8.lit _ 5 _ [c] 1 rfl (by omega) _ rfl) (by omega) (by simp [maxLen];omega) (by simp;omega) (fun a2 c2 w2 ho2 hg2 hat2=>?_)
        have hc2:=(hg2.cell_far ⟨gw,0,none⟩ (by simp;omega) hne).trans (hca _).1
        have hf2:=(hg2.frozen_far ⟨gw,0,none⟩ (by simp;omega) hne).trans (hca _).2))
    all_goals
     have hh2:w2.heap[gw]?=some (.cells #[v] 308 (0,0)):=(hg2.block gw (by simp;omega) hne).trans ((Below.heap_alloc _ _ _ hlt2).trans hh)
     have hne2:=own_neW ho2 hh2 (by decide)
     have hh3:=heap_setCell_same w2 gw 0 _ _ (.slice a2 (L.length+1) c2) hh2
     have hgs:w2.grownBy (w2.setCell ⟨gw,0,none⟩ (.slice a2 (L.length+1) c2)) (some gw):=⟨rfl,rfl,rfl,by simp,fun k _ hk=>heap_setCell_other w2 ⟨gw,0,none⟩ k _ (fun e=>hk (by simp [e]))⟩
     have ho3:=ho2.kept hgs (.inr (fun e=>hne2 e.symm))
     have hbl3:Below B w (w2.setCell ⟨gw,0,none⟩ (.slice a2 (L.length+1) c2)):=(((hbl.alloc (by omega) _).drew).grown hg2 (by simp;omega) (fun k hk=>(ho.lt k hk).1)).setCell hgw _
     clear hgs hne2 hh2 ho2 hg2 hat2 hc2 hf2 hca hne
     go_wp2
     go_roundw
     case rel =>
      refine ⟨j+1,by omega,by rw [show ((q:Int) - 1)=3 - ((j+1:Nat):Int) from by have:=hqq.out;omega],⟨hgw,_,hh3,?_⟩,hbl3⟩
      rw [HBT.out,← List.append_assoc,HLL.out]
      simpa using ho3
     case measure=>simp [intOf]
  · obtain rfl:j=4:=by omega
    have hfull:(be 4 n.toNat).take 4=be 4 n.toNat:=List.take_of_length_le (by rw [be_len];omega)
    rw [hfull] at ho
    have Hh:=hid hh
    clear hh
    go_wp2
    go_end0
    exact ⟨rfl,⟨hgw,v,Hh.out,ho⟩,hbl⟩
set_option maxHeartbeats 1000000 in
theorem put8_any (w:World) (B gw:Nat) (l:List UInt8) (n:UInt8) (h:Wr w B gw l) (hb:l.length≤1000000000000) (hB:B≤w.heap.size) :
 Calls Tryz.prog 158 #[.pointer (some ⟨gw,0,none⟩),.int .u8 (n.toNat:Int)] w fun e w'=>e=.returned (.tuple #[])∧Wr w' B gw (l++be 1 n.toNat)∧Below B w w':=by
 go_enter Tryz.func158,Tryz.ntmps158
 go_wp2_with (go_at_call 209;refine (width8 _).mono ?_;rintro e w' ⟨rfl,rfl⟩)
 go_loopw [4] (fun i wr=>∃ j:Nat,j≤1∧i=.int .i64 (0 - (j:Int))∧Wr wr B gw (l++(be 1 n.toNat).take j)∧Below B w wr) (fun i _=>(intOf i+1).toNat)
 case atStart=>exact ⟨0,by omega,rfl,by simpa using h,Below.refl _ _⟩
 case round =>
  obtain ⟨j,hj,rfl,⟨hgw,v,hh,ho⟩,hbl⟩:=hrel
  by_cases hlt:j < 1
  · have hsz:=hbl.size
    have hc:=cell_of_row wr gw 0 _ _ _ hh
    have hf:=frozen_of_row wr gw 0 _ _ hh
    have hlt2:=block_lt_of_cell hc
    simp only [List.getElem?_toArray,List.getElem?_cons_zero] at hc
    obtain ⟨q,hq⟩:∃ q:Nat,q=0 - j:=⟨_,rfl⟩
    have hq1:((0:Int) - (j:Int))=(q:Int):=by omega
    have hqq:=hid hq
    have hq8:q < 8:=by omega
    have hbt:=be_take 1 n.toNat j hlt
    rw [show 1 - 1 - j=q by omega] at hbt
    have HBT:=hid hbt
    have hlen:(l++(be 1 n.toNat).take j).length≤1000000000008:=by simp [be_len];omega
    rw [hq1]
    clear h hq hq1 hbt
    have hw1:IntKind.i64.wrap (8 * (q:Int))=8 * (q:Int):=by simp [IntKind.wrap,IntKind.bits,IntKind.signed];omega
    have hp0:(0:Int)≤8 * (q:Int):=by omega
    have hp1:8 * (q:Int)≤64:=by omega
    have hp2:(8 * (q:Int)).toNat=8 * q:=by omega
    have hwb:=wrap_byte n.toNat (8 * q)
    have hcv:IntKind.u64.wrap (n.toNat:Int)=(n.toNat:Int):=by
     have:=n.toNat_lt
     simp [IntKind.wrap,IntKind.bits,IntKind.signed];omega
    generalize hLL:l++(be 1 n.toNat).take j=L at *
    have HLL:=hid hLL;clear hLL
    generalize hcc:UInt8.ofNat (n.toNat / 2 ^ (8 * q))=c at *
    have HCC:=hid hcc;clear hcc
    go_wp2
    have hca:∀ o,(wr.alloc o).cell? ⟨gw,0,none⟩=some v∧(wr.alloc o).frozen? ⟨gw,0,none⟩=false:=fun o =>
     ⟨by rw [World.cell?_alloc_past (hn:=hlt2)];exact hc,by rw [World.frozen?_alloc_past (hn:=hlt2)];exact hf⟩
    have hne:=own_neW ho hh (by decide)
    go_region_law (first
     | (refine S_append8 rfl (.tmp 17) (.tmp 24) 53 (by rfl) sl22 B v _ _ (by rfl) (ho.alloc _) (some ⟨wr.heap.size,0,none⟩) 1 1 [c] (by rfl) (R8.lit _ 5 _ [c] 1 rfl (by omega) _ rfl) (by omega) (by simp [maxLen];omega) (by simp;omega) (fun a2 c2 w2 ho2 hg2 hat2=>?_)
        have hc2:=(hg2.cell_far ⟨gw,0,none⟩ (by simp;omega) hne).trans (hca _).1
        have hf2:=(hg2.frozen_far ⟨gw,0,none⟩ (by simp;omega) hne).trans (hca _).2))
    all_goals
     have hh2:w2.heap[gw]?=some (.cells #[v] 308 (0,0)):=(hg2.block gw (by simp;omega) hne).trans ((Below.heap_alloc _ _ _ hlt2).trans hh)
     have hne2:=own_neW ho2 hh2 (by decide)
     have hh3:=heap_setCell_same w2 gw 0 _ _ (.slice a2 (L.length+1) c2) hh2
     have hgs:w2.grownBy (w2.setCell ⟨gw,0,none⟩ (.slice a2 (L.length+1) c2)) (some gw):=⟨rfl,rfl,rfl,by simp,fun k _ hk=>heap_setCell_other w2 ⟨gw,0,none⟩ k _ (fun e=>hk (by simp [e]))⟩
     have ho3:=ho2.kept hgs (.inr (fun e=>hne2 e.symm))
     have hbl3:Below B w (w2.setCell ⟨gw,0,none⟩ (.slice a2 (L.length+1) c2)):=(((hbl.alloc (by omega) _).drew).grown hg2 (by simp;omega) (fun k hk=>(ho.lt k hk).1)).setCell hgw _
     clear hgs hne2 hh2 ho2 hg2 hat2 hc2 hf2 hca hne
     go_wp2
     go_roundw
     case rel =>
      refine ⟨j+1,by omega,by rw [show ((q:Int) - 1)=0 - ((j+1:Nat):Int) from by have:=hqq.out;omega],⟨hgw,_,hh3,?_⟩,hbl3⟩
      rw [HBT.out,← List.append_assoc,HLL.out]
      simpa using ho3
     case measure=>simp [intOf]
  · obtain rfl:j=1:=by omega
    have hfull:(be 1 n.toNat).take 1=be 1 n.toNat:=List.take_of_length_le (by rw [be_len];omega)
    rw [hfull] at ho
    have Hh:=hid hh
    clear hh
    go_wp2
    go_end0
    exact ⟨rfl,⟨hgw,v,Hh.out,ho⟩,hbl⟩
def crc (l:List UInt8):UInt32:=nt (thr 4294967295 l)
theorem Wr.len {w:World} {B gw:Nat} {l:List UInt8} (h:Wr w B gw l):gw < w.heap.size:=(Array.getElem?_eq_some_iff.1 h.2.choose_spec.1).1
theorem Wr.below {w w':World} {B gw:Nat} {l:List UInt8} (h:Wr w B gw l) (hb:Below w.heap.size w w'):Wr w' B gw l:=by
 have hl:=h.len
 obtain ⟨hg,v,hh,ho⟩:=h
 exact ⟨hg,v,(hb.block gw hl).trans hh,ho.kept (row:=none) ⟨hb.os,hb.tape,hb.output,hb.size,fun k hk _=>hb.block k hk⟩ (by cases v.ownBlock <;> simp)⟩
theorem HalfTab.below {w w':World} {B:Nat} (h:HalfTab w) (hb:Below B w w') (h0:2 < B):HalfTab w':=fun i hi=>by
 rw [hb.cell (by show 2 < B;exact h0)];exact h i hi
theorem R8.of_owns' {w:World} {base e:Nat} {a:Option Addr} {n c:Nat} {l:List UInt8} (h:w.ownsRow base e 1 (.slice a n c) n (l.map b8)) (hn:l.length≤281474976710656):R8 w a n c l :=
 R8.of_owns h (by have:=h.1;simp at this;omega)
set_option maxHeartbeats 400000 in
theorem all_any (w:World) (B gw:Nat) (l:List UInt8) (h:Wr w B gw l) (hl:l.length≤1000000000000) :
 Calls Tryz.prog 163 #[.pointer (some ⟨gw,0,none⟩)] w fun e w'=>∃ a n c,e=.returned (.slice a n c)∧w'.ownsRow w.heap.size 5 1 (.slice a n c) n (l.map b8)∧Below w.heap.size w w':=by
 obtain ⟨hg,v,hh,ho⟩:=h
 obtain ⟨a,c,rfl,-⟩:=owns_shape ho
 have hc:=cell_of_row w gw 0 _ _ _ hh
 have hr:=R8.of_owns ho (by omega)
 simp only [List.getElem?_toArray,List.getElem?_cons_zero] at hc
 clear hh
 go_enter Tryz.func163,Tryz.ntmps163
 go_wp2_with (first
  | (at_builtin;refine L_append8 rfl _ _ _ rfl sl22 w.heap.size (.slice none 0 0) 0 [] rfl (World.ownsRow_nil _ _ _ _) _ _ _ l rfl hr (by omega) (by simp [maxLen];omega) (Nat.le_refl _) (fun a3 c3 w3 ho3 hg3 _=>?_)))
 go_ret
 simp only [Nat.zero_add,List.nil_append] at ho3 ⊢
 exact ⟨_,_,_,rfl,ho3,(Below.refl _ _).grown hg3 (Nat.le_refl _) (by intro k hk;cases hk)⟩
theorem put64_nat (w:World) (B gw:Nat) (l:List UInt8) (n:Nat) (hn:n < 18446744073709551616) (h:Wr w B gw l) (hb:l.length≤1000000000000) (hB:B≤w.heap.size) :
 Calls Tryz.prog 159 #[.pointer (some ⟨gw,0,none⟩),.int .u64 (n:Int)] w fun e w'=>e=.returned (.tuple #[])∧Wr w' B gw (l++be 8 n)∧Below B w w':=by
 have:=put64_any w B gw l (UInt64.ofNat n) h hb hB
 rwa [show (UInt64.ofNat n).toNat=n by simp;omega] at this
theorem put32_nat (w:World) (B gw:Nat) (l:List UInt8) (n:Nat) (hn:n < 4294967296) (h:Wr w B gw l) (hb:l.length≤1000000000000) (hB:B≤w.heap.size) :
 Calls Tryz.prog 161 #[.pointer (some ⟨gw,0,none⟩),.int .u32 (n:Int)] w fun e w'=>e=.returned (.tuple #[])∧Wr w' B gw (l++be 4 n)∧Below B w w':=by
 have:=put32_any w B gw l (UInt32.ofNat n) h hb hB
 rwa [show (UInt32.ofNat n).toNat=n by simp;omega] at this
end
section
def shr (n:Nat) (x:UInt32):UInt32:=UInt32.ofNat (x.toNat / 2 ^ n)
def shl (n:Nat) (x:UInt32):UInt32:=UInt32.ofNat (x.toNat * 2 ^ n)
def orw (x y:UInt32):UInt32:=x ||| y
def anw (x y:UInt32):UInt32:=x &&& y
def ad (x y:UInt32):UInt32:=x+y
def rot (n:Int) (x:UInt32):UInt32:=orw (shr n.toNat x) (shl (32 - n).toNat x)
theorem shr_u32 (n:Nat) (x:UInt32):((shr n x).toNat:Int)=(x.toNat:Int) / (2 ^ n:Nat):=by
 have h:x.toNat / 2 ^ n < 4294967296:=Nat.lt_of_le_of_lt (Nat.div_le_self _ _) x.toNat_lt
 unfold shr
 rw [UInt32.toNat_ofNat_of_lt' h];push_cast;rfl
theorem shl_u32 (n:Nat) (x:UInt32):((shl n x).toNat:Int)=(x.toNat:Int) * (2 ^ n:Nat) % 4294967296:=by
 unfold shl
 rw [UInt32.toNat_ofNat',Int.natCast_emod,Int.natCast_mul];rfl
@[go_sem] theorem or_u32 (x y:UInt32):bits .or .u32 (x.toNat:Int) (y.toNat:Int)=((orw x y).toNat:Int):=by
  simp only [bits,IntKind.bits,ofInt32]
  rw [wrap_u32_nat (BitVec.isLt _)];rfl
@[go_sem] theorem and_u32 (x y:UInt32):bits .and .u32 (x.toNat:Int) (y.toNat:Int)=((anw x y).toNat:Int):=by
  simp only [bits,IntKind.bits,ofInt32]
  rw [wrap_u32_nat (BitVec.isLt _)];rfl
@[go_sem] theorem add_u32 (x y:UInt32):((x.toNat:Int)+(y.toNat:Int)) % 4294967296=((ad x y).toNat:Int):=by
  unfold ad
  rw [UInt32.toNat_add,Int.natCast_emod,Int.natCast_add];rfl
theorem turn_2 (w:World) (x:UInt32):Calls Tryz.prog 253 #[.int .u32 (x.toNat:Int),.int .i64 2] w fun e w'=>e=.returned (.int .u32 ((rot 2 x).toNat:Int))∧∃ n,w'=w.drewN n:=by
 have h1:(x.toNat:Int) / 4=((shr 2 x).toNat:Int):=(shr_u32 2 x).symm
 have h2:(x.toNat:Int) * 1073741824 % 4294967296=((shl 30 x).toNat:Int):=(shl_u32 30 x).symm
 go_enter Tryz.func253,Tryz.ntmps253
 go_wp2
 go_quiet (fail)
 go_wp2
 go_ret
 exact ⟨rfl,_,rfl⟩
theorem turn_6 (w:World) (x:UInt32):Calls Tryz.prog 253 #[.int .u32 (x.toNat:Int),.int .i64 6] w fun e w'=>e=.returned (.int .u32 ((rot 6 x).toNat:Int))∧∃ n,w'=w.drewN n:=by
 have h1:(x.toNat:Int) / 64=((shr 6 x).toNat:Int):=(shr_u32 6 x).symm
 have h2:(x.toNat:Int) * 67108864 % 4294967296=((shl 26 x).toNat:Int):=(shl_u32 26 x).symm
 go_enter Tryz.func253,Tryz.ntmps253
 go_wp2
 go_quiet (fail)
 go_wp2
 go_ret
 exact ⟨rfl,_,rfl⟩
theorem turn_7 (w:World) (x:UInt32):Calls Tryz.prog 253 #[.int .u32 (x.toNat:Int),.int .i64 7] w fun e w'=>e=.returned (.int .u32 ((rot 7 x).toNat:Int))∧∃ n,w'=w.drewN n:=by
 have h1:(x.toNat:Int) / 128=((shr 7 x).toNat:Int):=(shr_u32 7 x).symm
 have h2:(x.toNat:Int) * 33554432 % 4294967296=((shl 25 x).toNat:Int):=(shl_u32 25 x).symm
 go_enter Tryz.func253,Tryz.ntmps253
 go_wp2
 go_quiet (fail)
 go_wp2
 go_ret
 exact ⟨rfl,_,rfl⟩
theorem turn_11 (w:World) (x:UInt32):Calls Tryz.prog 253 #[.int .u32 (x.toNat:Int),.int .i64 11] w fun e w'=>e=.returned (.int .u32 ((rot 11 x).toNat:Int))∧∃ n,w'=w.drewN n:=by
 have h1:(x.toNat:Int) / 2048=((shr 11 x).toNat:Int):=(shr_u32 11 x).symm
 have h2:(x.toNat:Int) * 2097152 % 4294967296=((shl 21 x).toNat:Int):=(shl_u32 21 x).symm
 go_enter Tryz.func253,Tryz.ntmps253
 go_wp2
 go_quiet (fail)
 go_wp2
 go_ret
 exact ⟨rfl,_,rfl⟩
theorem turn_13 (w:World) (x:UInt32):Calls Tryz.prog 253 #[.int .u32 (x.toNat:Int),.int .i64 13] w fun e w'=>e=.returned (.int .u32 ((rot 13 x).toNat:Int))∧∃ n,w'=w.drewN n:=by
 have h1:(x.toNat:Int) / 8192=((shr 13 x).toNat:Int):=(shr_u32 13 x).symm
 have h2:(x.toNat:Int) * 524288 % 4294967296=((shl 19 x).toNat:Int):=(shl_u32 19 x).symm
 go_enter Tryz.func253,Tryz.ntmps253
 go_wp2
 go_quiet (fail)
 go_wp2
 go_ret
 exact ⟨rfl,_,rfl⟩
theorem turn_17 (w:World) (x:UInt32):Calls Tryz.prog 253 #[.int .u32 (x.toNat:Int),.int .i64 17] w fun e w'=>e=.returned (.int .u32 ((rot 17 x).toNat:Int))∧∃ n,w'=w.drewN n:=by
 have h1:(x.toNat:Int) / 131072=((shr 17 x).toNat:Int):=(shr_u32 17 x).symm
 have h2:(x.toNat:Int) * 32768 % 4294967296=((shl 15 x).toNat:Int):=(shl_u32 15 x).symm
 go_enter Tryz.func253,Tryz.ntmps253
 go_wp2
 go_quiet (fail)
 go_wp2
 go_ret
 exact ⟨rfl,_,rfl⟩
theorem turn_18 (w:World) (x:UInt32):Calls Tryz.prog 253 #[.int .u32 (x.toNat:Int),.int .i64 18] w fun e w'=>e=.returned (.int .u32 ((rot 18 x).toNat:Int))∧∃ n,w'=w.drewN n:=by
 have h1:(x.toNat:Int) / 262144=((shr 18 x).toNat:Int):=(shr_u32 18 x).symm
 have h2:(x.toNat:Int) * 16384 % 4294967296=((shl 14 x).toNat:Int):=(shl_u32 14 x).symm
 go_enter Tryz.func253,Tryz.ntmps253
 go_wp2
 go_quiet (fail)
 go_wp2
 go_ret
 exact ⟨rfl,_,rfl⟩
theorem turn_19 (w:World) (x:UInt32):Calls Tryz.prog 253 #[.int .u32 (x.toNat:Int),.int .i64 19] w fun e w'=>e=.returned (.int .u32 ((rot 19 x).toNat:Int))∧∃ n,w'=w.drewN n:=by
 have h1:(x.toNat:Int) / 524288=((shr 19 x).toNat:Int):=(shr_u32 19 x).symm
 have h2:(x.toNat:Int) * 8192 % 4294967296=((shl 13 x).toNat:Int):=(shl_u32 13 x).symm
 go_enter Tryz.func253,Tryz.ntmps253
 go_wp2
 go_quiet (fail)
 go_wp2
 go_ret
 exact ⟨rfl,_,rfl⟩
theorem turn_22 (w:World) (x:UInt32):Calls Tryz.prog 253 #[.int .u32 (x.toNat:Int),.int .i64 22] w fun e w'=>e=.returned (.int .u32 ((rot 22 x).toNat:Int))∧∃ n,w'=w.drewN n:=by
 have h1:(x.toNat:Int) / 4194304=((shr 22 x).toNat:Int):=(shr_u32 22 x).symm
 have h2:(x.toNat:Int) * 1024 % 4294967296=((shl 10 x).toNat:Int):=(shl_u32 10 x).symm
 go_enter Tryz.func253,Tryz.ntmps253
 go_wp2
 go_quiet (fail)
 go_wp2
 go_ret
 exact ⟨rfl,_,rfl⟩
theorem turn_25 (w:World) (x:UInt32):Calls Tryz.prog 253 #[.int .u32 (x.toNat:Int),.int .i64 25] w fun e w'=>e=.returned (.int .u32 ((rot 25 x).toNat:Int))∧∃ n,w'=w.drewN n:=by
 have h1:(x.toNat:Int) / 33554432=((shr 25 x).toNat:Int):=(shr_u32 25 x).symm
 have h2:(x.toNat:Int) * 128 % 4294967296=((shl 7 x).toNat:Int):=(shl_u32 7 x).symm
 go_enter Tryz.func253,Tryz.ntmps253
 go_wp2
 go_quiet (fail)
 go_wp2
 go_ret
 exact ⟨rfl,_,rfl⟩
theorem turn_any (w:World) (x:UInt32) (n:Int) (hn:n ∈ [(2:Int),6,7,11,13,17,18,19,22,25]):Calls Tryz.prog 253 #[.int .u32 (x.toNat:Int),.int .i64 n] w fun e w'=>e=.returned (.int .u32 ((rot n x).toNat:Int))∧∃ n,w'=w.drewN n:=by
 simp only [List.mem_cons,List.not_mem_nil,or_false] at hn
 rcases hn with rfl | rfl | rfl | rfl | rfl | rfl | rfl | rfl | rfl | rfl
 · exact turn_2 w x
 · exact turn_6 w x
 · exact turn_7 w x
 · exact turn_11 w x
 · exact turn_13 w x
 · exact turn_17 w x
 · exact turn_18 w x
 · exact turn_19 w x
 · exact turn_22 w x
 · exact turn_25 w x
end
section
structure S8 where
 a:UInt32
 b:UInt32
 c:UInt32
 d:UInt32
 e:UInt32
 f:UInt32
 g:UInt32
 h:UInt32
def S8.list (s:S8):List UInt32:=[s.a,s.b,s.c,s.d,s.e,s.f,s.g,s.h]
def roundL:List UInt32:=[0x428a2f98,0x71374491,0xb5c0fbcf,0xe9b5dba5,0x3956c25b,0x59f111f1,0x923f82a4,0xab1c5ed5,
 0xd807aa98,0x12835b01,0x243185be,0x550c7dc3,0x72be5d74,0x80deb1fe,0x9bdc06a7,0xc19bf174,
 0xe49b69c1,0xefbe4786,0x0fc19dc6,0x240ca1cc,0x2de92c6f,0x4a7484aa,0x5cb0a9dc,0x76f988da,
 0x983e5152,0xa831c66d,0xb00327c8,0xbf597fc7,0xc6e00bf3,0xd5a79147,0x06ca6351,0x14292967,
 0x27b70a85,0x2e1b2138,0x4d2c6dfc,0x53380d13,0x650a7354,0x766a0abb,0x81c2c92e,0x92722c85,
 0xa2bfe8a1,0xa81a664b,0xc24b8b70,0xc76c51a3,0xd192e819,0xd6990624,0xf40e3585,0x106aa070,
 0x19a4c116,0x1e376c08,0x2748774c,0x34b0bcb5,0x391c0cb3,0x4ed8aa4a,0x5b9cca4f,0x682e6ff3,
 0x748f82ee,0x78a5636f,0x84c87814,0x8cc70208,0x90befffa,0xa4506ceb,0xbef9a3f7,0xc67178f2]
def kT (i:Nat):UInt32:=roundL.getD i 0
def RoundTab (w:World):Prop:=∀ i,i < 64→w.cell? ⟨3,i,none⟩=some (.int .u32 ((kT i).toNat:Int))
def lo0 (x:UInt32):UInt32:=xr (xr (rot 7 x) (rot 18 x)) (shr 3 x)
def lo1 (x:UInt32):UInt32:=xr (xr (rot 17 x) (rot 19 x)) (shr 10 x)
def up1 (x:UInt32):UInt32:=xr (xr (rot 6 x) (rot 11 x)) (rot 25 x)
def up0 (x:UInt32):UInt32:=xr (xr (rot 2 x) (rot 13 x)) (rot 22 x)
def chw (e f g:UInt32):UInt32:=xr (anw e f) (anw (nt e) g)
def maj (a b c:UInt32):UInt32:=xr (xr (anw a b) (anw a c)) (anw b c)
def rnd (k w:UInt32) (s:S8):S8 :=
 ⟨ad (ad (ad (ad (ad s.h (up1 s.e)) (chw s.e s.f s.g)) k) w) (ad (up0 s.a) (maj s.a s.b s.c)),s.a,s.b,s.c,ad s.d (ad (ad (ad (ad s.h (up1 s.e)) (chw s.e s.f s.g)) k) w),s.e,s.f,s.g⟩
def wordAt (p:List UInt8) (t:Nat):UInt32:=orw (orw (orw (shl 24 (p.getD (4 * t) 0).toUInt32) (shl 16 (p.getD (4 * t+1) 0).toUInt32)) (shl 8 (p.getD (4 * t+2) 0).toUInt32)) (p.getD (4 * t+3) 0).toUInt32
def sched (p:List UInt8):Nat→List UInt32
 | 0=>(List.range 16).map (wordAt p)
 | n+1=>sched p n++[ad (ad (ad ((sched p n).getD n 0) (lo0 ((sched p n).getD (n+1) 0))) ((sched p n).getD (n+9) 0)) (lo1 ((sched p n).getD (n+14) 0))]
def wT (p:List UInt8) (i:Nat):UInt32:=(sched p 48).getD i 0
theorem sched_len (p:List UInt8):∀ n,(sched p n).length=16+n
 | 0=>by simp [sched]
 | n+1=>by rw [sched,List.length_append,sched_len p n];rfl
theorem sched_pre (p:List UInt8) (i:Nat):∀ n m,i < 16+n→(sched p (n+m)).getD i 0=(sched p n).getD i 0
 | n,0,_=>rfl
 | n,m+1,h=>by
   show (sched p (n+m)++[_]).getD i 0=_
   rw [List.getD_eq_getElem?_getD,List.getElem?_append_left (by rw [sched_len];omega),← List.getD_eq_getElem?_getD,sched_pre p i n m h]
theorem wT_low (p:List UInt8) (t:Nat) (h:t < 16):wT p t=wordAt p t:=by
 unfold wT
 rw [show (48:Nat)=0+48 from rfl,sched_pre p t 0 48 (by omega),sched,List.getD_eq_getElem?_getD,List.getElem?_map,List.getElem?_range h];rfl
theorem wT_high (p:List UInt8) (t:Nat) (h0:16≤t) (h:t < 64):ad (ad (ad (wT p (t - 16)) (lo0 (wT p (t - 15)))) (wT p (t - 7))) (lo1 (wT p (t - 2)))=wT p t:=by
 obtain ⟨n,rfl⟩:∃ n,t=n+16:=⟨t - 16,by omega⟩
 have hs:∀ i,i < 16+n→wT p i=(sched p n).getD i 0:=fun i hi=>by
  unfold wT
  rw [show (48:Nat)=n+(48 - n) by omega,sched_pre p i n _ hi]
 have h1:wT p (n+16)=(sched p (n+1)).getD (n+16) 0:=by
  unfold wT
  rw [show (48:Nat)=(n+1)+(47 - n) by omega,sched_pre p _ (n+1) _ (by omega)]
 rw [h1,sched,List.getD_eq_getElem?_getD,List.getElem?_append_right (by rw [sched_len];omega),sched_len,show n+16 - (16+n)=0 by omega]
 rw [hs _ (by omega),hs _ (by omega),hs _ (by omega),hs _ (by omega),show n+16 - 16=n by omega,show n+16 - 15=n+1 by omega,show n+16 - 7=n+9 by omega,show n+16 - 2=n+14 by omega]
 rfl
def rounds (p:List UInt8) (s:S8):Nat→S8
 | 0=>s
 | t+1=>rnd (kT t) (wT p t) (rounds p s t)
def S8.plus (x y:S8):S8:=⟨ad x.a y.a,ad x.b y.b,ad x.c y.c,ad x.d y.d,ad x.e y.e,ad x.f y.f,ad x.g y.g,ad x.h y.h⟩
def blockS (p:List UInt8) (s:S8):S8:=s.plus (rounds p s 64)
def wv (x:UInt32):Value:=.int .u32 (x.toNat:Int)
def wArr (p:List UInt8) (t:Nat):Array Value:=((List.range 64).map fun i=>wv (if i < t then wT p i else 0)).toArray
theorem wArr_get (p:List UInt8) (t i:Nat) (h:i < 64):(wArr p t)[i]?=some (wv (if i < t then wT p i else 0)):=by
 simp [wArr,h]
theorem wArr_set (p:List UInt8) (t:Nat) (h:t < 64):(wArr p t).setIfInBounds t (wv (wT p t))=wArr p (t+1):=by
 apply Array.ext_getElem?
 intro i
 by_cases hi:i < 64
 · rw [wArr_get _ _ _ hi,Array.getElem?_setIfInBounds]
   by_cases e:t=i
   · subst e;rw [if_pos rfl,if_pos (by simp [wArr];exact h),if_pos (by omega)]
   · rw [if_neg e,wArr_get _ _ _ hi]
     by_cases h2:i < t
     · rw [if_pos h2,if_pos (by omega)]
     · rw [if_neg h2,if_neg (by omega)]
 · rw [Array.getElem?_eq_none (by simp [wArr];omega),Array.getElem?_eq_none (by simp [wArr];omega)]
theorem wArr_zero (p:List UInt8):wArr p 0=Array.replicate 64 (.int .u32 0):=by
 apply Array.ext_getElem?
 intro i
 by_cases hi:i < 64
 · rw [wArr_get _ _ _ hi,Array.getElem?_replicate,if_pos hi,if_neg (by omega)];rfl
 · rw [Array.getElem?_eq_none (by simp [wArr];omega),Array.getElem?_eq_none (by simp;omega)]
@[go_sem] theorem or_u32_u8 (x:UInt32) (c:UInt8):bits .or .u32 (x.toNat:Int) (c.toNat:Int)=((orw x c.toUInt32).toNat:Int):=by
  rw [show (c.toNat:Int)=(c.toUInt32.toNat:Int) by simp];exact or_u32 _ _
theorem shl_u8 (n:Nat) (c:UInt8):(c.toNat:Int) * (2 ^ n:Nat) % 4294967296=((shl n c.toUInt32).toNat:Int):=by
 rw [shl_u32,show (c.toUInt32.toNat:Int)=(c.toNat:Int) by simp]
end
end Go.Proofs.YtgkehahklccacaaGreatDoor
