import Derived.Test.YtgkehahklccacaaGreatDoorC01
import Derived.Lib.SlBytesConst
import Derived.Deep.RegionHeld3
import Derived.Deep.AppendLies
namespace Go.Proofs.YtgkehahklccacaaGreatDoor
open Go Go.RowKit
open Go.Lib (hid)
set_option maxRecDepth 100000
set_option maxHeartbeats 1000000
set_option linter.unusedVariables false
set_option linter.unusedSimpArgs false
section
def R8 (w:World) (a:Option Addr) (len cap:Nat) (l:List UInt8):Prop :=
 l.length=len∧len≤cap∧len≤281474976710656∧∀ i (h:i < l.length),∃ b off,a=some ⟨b,off,none⟩∧w.cell? ⟨b,off+i,none⟩=some (.int .u8 (l[i].toNat:Int))
theorem R8.at {w:World} {a:Option Addr} {len cap:Nat} {l:List UInt8} (h:R8 w a len cap l) {i:Nat} (hi:i < len) :
 ∃ b off c,a=some ⟨b,off,none⟩∧l[i]?=some c∧w.cell? ⟨b,off+i,none⟩=some (.int .u8 (c.toNat:Int)):=by
 obtain ⟨h1,h2,h3,h4⟩:=h
 obtain ⟨b,off,e,hc⟩:=h4 i (by omega)
 exact ⟨b,off,l[i],e,by simp,hc⟩
def b8 (c:UInt8):Value:=.int .u8 (c.toNat:Int)
theorem b8_one (l:List UInt8):∀ u ∈ l.map b8,u.oneCell'=true:=by
 intro u hu
 obtain ⟨_,_,rfl⟩:=List.mem_map.1 hu
 rfl
theorem R8.drewN {w:World} {a:Option Addr} {len cap:Nat} {l:List UInt8} (h:R8 w a len cap l) (n:Nat):R8 (w.drewN n) a len cap l:=h
theorem R8.drew {w:World} {a:Option Addr} {len cap:Nat} {l:List UInt8} (h:R8 w a len cap l):R8 w.drew a len cap l:=h
theorem R8.take {w:World} {a:Option Addr} {len cap:Nat} {l:List UInt8} (h:R8 w a len cap l) (n:Nat) (hn:n≤len):R8 w a n cap (l.take n):=by
 obtain ⟨h1,h2,h3,h4⟩:=h
 refine ⟨by simp;omega,by omega,by omega,fun i hi=>?_⟩
 simp at hi
 obtain ⟨b,off,e,hc⟩:=h4 i (by omega)
 exact ⟨b,off,e,by simpa using hc⟩
theorem R8.nil (w:World) (c:Nat):R8 w none 0 c []:=⟨rfl,by omega,by omega,fun i hi=>by simp at hi⟩
theorem R8.below {w w':World} {a:Option Addr} {len cap:Nat} {l:List UInt8} (h:R8 w a len cap l) (hb:Below w.heap.size w w'):R8 w' a len cap l:=by
 obtain ⟨h1,h2,h3,h4⟩:=h
 refine ⟨h1,h2,h3,fun i hi=>?_⟩
 obtain ⟨b,off,e,hc⟩:=h4 i hi
 exact ⟨b,off,e,by rw [hb.cell (World.block_lt_of_cell? w _ hc)];exact hc⟩
theorem R8.belowB {B:Nat} {w0 w':World} {a:Option Addr} {len cap:Nat} {l:List UInt8} (h:R8 w0 a len cap l) (hB:w0.heap.size≤B) (hb:Below B w0 w'):R8 w' a len cap l :=
 h.below (hb.mono hB)
theorem R8.cells {w:World} {a:Option Addr} {len cap:Nat} {l:List UInt8} (h:R8 w a len cap l) {ad:Addr} (ha:a=some ad):∀ j u,(l.map b8)[j]?=some u→w.cell? (ad.add j)=some u:=by
 intro j u hu
 obtain ⟨h1,h2,h3,h4⟩:=h
 have hj:j < l.length:=by
  have:=(List.getElem?_eq_some_iff.1 hu).1
  simpa using this
 obtain ⟨b,off,e,hc⟩:=h4 j hj
 obtain rfl:=Option.some.inj (ha.symm.trans e)
 simp [hj] at hu
 rw [Addr.add_lit,hc,← hu];rfl
theorem R8.of_owns {w:World} {base e:Nat} {a:Option Addr} {n c:Nat} {l:List UInt8} (h:w.ownsRow base e 1 (.slice a n c) n (l.map b8)) (hn:n≤281474976710656):R8 w a n c l:=by
 obtain ⟨h1,h2⟩:=h
 simp at h1
 rcases h2 with ⟨h2,rfl⟩ | ⟨g,cap,cur,hv,hg,hh,hnc,hcm,hcs,ht⟩
 · obtain rfl:l=[]:=List.eq_nil_of_length_eq_zero h1
   exact ⟨rfl,by omega,by omega,fun i hi=>by simp at hi⟩
 · obtain ⟨rfl,-,rfl⟩:=Value.slice.inj hv
   refine ⟨h1,hnc,hn,fun i hi=>⟨g,0,rfl,?_⟩⟩
   rw [cell_of_row w g _ cur e (0,0) hh]
   have hi2:(cur.toList.take (n * 1))[i]?=(l.map b8)[i]?:=by rw [ht]
   rw [List.getElem?_take,if_pos (by omega)] at hi2
   simp [hi] at hi2
   simpa [b8] using hi2
theorem R8.lit (w:World) (e:TypeId) (fr:Nat × Nat) (l:List UInt8) (n:Nat) (hn:l.length=n) (hs:n≤281474976710656) (cs:Array Value) (hc:cs=(l.map b8).toArray) :
 R8 (w.alloc (.cells cs e fr)) (some ⟨w.heap.size,0,none⟩) n n l:=by
 refine ⟨hn,Nat.le_refl _,hs,fun i hi=>⟨w.heap.size,0,rfl,?_⟩⟩
 have hh:(w.alloc (.cells cs e fr)).heap[w.heap.size]?=some (.cells cs e fr):=heap_alloc_new w _
 rw [cell_of_row _ _ _ cs e fr hh,hc]
 simp [hi,b8]
def dropA (a:Option Addr) (k cap:Nat):Option Addr:=if cap=k then a else a.map (·.add k)
theorem R8.dropA {w:World} {a:Option Addr} {len cap:Nat} {l:List UInt8} (h:R8 w a len cap l) (k:Nat) (hk:k≤len):R8 w (dropA a k cap) (len - k) (cap - k) (l.drop k):=by
 obtain ⟨h1,h2,h3,h4⟩:=h
 refine ⟨by simp;omega,by omega,by omega,fun i hi=>?_⟩
 simp at hi
 obtain ⟨b,off,rfl,hc⟩:=h4 (k+i) (by omega)
 refine ⟨b,off+k,?_,?_⟩
 · rw [Go.Proofs.YtgkehahklccacaaGreatDoor.dropA,if_neg (by omega)];simp [Addr.add_lit]
 · rw [Nat.add_assoc,hc];simp
theorem R8.mid {w:World} {a:Option Addr} {len cap:Nat} {l:List UInt8} (h:R8 w a len cap l) (k e:Nat) (hk:k≤e) (he:e≤len):R8 w (Go.Proofs.YtgkehahklccacaaGreatDoor.dropA a k cap) (e - k) (cap - k) ((l.drop k).take (e - k)) :=
 (h.dropA k (by omega)).take (e - k) (by omega)
section
variable {P : Program} {t e : TypeId} {z : Value} {bytes : Nat} (T : Sl P t e z 1 bytes) (w : World) (a : Option Addr) (len cap : Nat)
include T
theorem Sl.elem:P.underlying t=some (.slice (P.elem t))∧(sizeOf (P.elem t)).run P w=.ok 1 w:=by
 obtain ⟨i,hi,hz0,hz1,hz2⟩:=info_parts T.inf
 have he:P.elem t=e:=by simp [Program.elem,T.und]
 rw [he]
 exact ⟨T.und,by simp [sizeOf,typeInfo,hi,hz1]⟩
theorem slice_from (k:Nat) (x:Int) (hx:x=(k:Int)) (hk:k≤len):(Instr.slice t (.slice a len cap) (some (.int .i64 x)) none none).run P w=.ok (.slice (dropA a k cap) (len - k) (cap - k)) w:=by
 subst hx
 obtain ⟨h1,h2⟩:=T.elem w
 rw [run_slice_l w t a len cap h1 .i64 k (by omega) (by omega),h2]
 simp [Result.andThen,sliced,dropA]
theorem slice_mid (k h:Nat) (x y:Int) (hx:x=(k:Int)) (hy:y=(h:Int)) (hk:k≤h) (hc:h≤cap):(Instr.slice t (.slice a len cap) (some (.int .i64 x)) (some (.int .i64 y)) none).run P w=.ok (.slice (dropA a k cap) (h - k) (cap - k)) w:=by
 subst hx hy
 obtain ⟨h1,h2⟩:=T.elem w
 rw [run_slice_lh w t a len cap h1 .i64 .i64 k h (by omega) (by omega) (by omega),h2]
 simp [Result.andThen,sliced,dropA]
end
section
variable {P : Program} {w : World} {ops : Array Oper} {rest : List Oper} {o : Oper} {a : Act} {Q : Exit → Act → World → Prop}
theorem W_append8 {K:Act→World→Prop} (s x:Operand) (t:TypeId) (ho:o.op=.call { callee:=.builtin .append,args:=#[s,x],argTypes:=#[t,t] })
 {e:TypeId} {z:Value} {bytes:Nat} (T:Sl P t e z 1 bytes) (base:Nat) (v:Value) (n:Nat) (xs:List Value) (hs:a.eval s=v) (hown:w.ownsRow base e 1 v n xs)
 (sa:Option Addr) (m c:Nat) (l:List UInt8) (hx:a.eval x=.slice sa m c) (hr:R8 w sa m c l) (hb:(n+m) * bytes≤140737488355328) (hm:n+m≤maxLen) (hbase:base≤w.heap.size)
 (h:∀ a' c' w',w'.ownsRow base e 1 (.slice a' (n+m) c') (n+m) (xs++l.map b8)→w.grownBy w' v.ownBlock→((Value.slice a' (n+m) c').ownBlock=v.ownBlock∨(Value.slice a' (n+m) c').ownBlock=some w.heap.size)→K (a.put o.dst (.slice a' (n+m) c')) w'):o.wp P a w K Q:=by
 obtain ⟨i,hi,hz0,hz1,hz2⟩:=info_parts T.inf
 cases sa with
 | some ad =>
   obtain ⟨v',w',hr2,h2,h3,_,h5⟩:=run_append_own_at (P:=P) w base t o.type e i z 1 bytes T.und hi hz0 hz1 hz2 T.zs T.pos v n xs hown ad m c (l.map b8) (by simp [hr.1]) (hr.cells rfl) (b8_one l) hm hb hbase
   unfold Oper.wp execOp
   simp only [ho,resolve,invoke,builtin,Sem.run_bind,Sem.run_pure,Result.andThen_ok,List.map_toArray,List.map_cons,List.map_nil,hs,hx,hr2]
   obtain ⟨a',c',rfl,_⟩:=owns_shape h2
   exact h a' c' w' h2 h3 h5
 | none =>
   have hl:l=[]:=by
    apply List.eq_nil_of_length_eq_zero
    rcases Nat.eq_zero_or_pos l.length with h0 | h0
    · exact h0
    · obtain ⟨b,off,e,_⟩:=hr.2.2.2 0 h0
      cases e
   subst hl
   have hm0:m=0:=hr.1.symm
   subst hm0
   subst hs
   obtain ⟨a',c',hv',_⟩:=owns_shape hown
   have hh:=h a' c' w (by simpa [hv'] using hown) ⟨rfl,rfl,rfl,Nat.le_refl _,fun _ _ _=>rfl⟩ (.inl (by simp [hv']))
   simp only [Nat.add_zero,← hv'] at hh
   rcases hown.2 with ⟨hv,rfl⟩ | ⟨g,cap,cur,hv,_,_,hnc,_⟩
   · rw [hv] at hh
     unfold Oper.wp
     simp [execOp,ho,resolve,invoke,builtin,hv,hx,Builtin.append_,run_underlying T.und,sizeOf,typeInfo,hi,Builtin.lenOf,Builtin.firstCells,Result.andThen]
     exact hh
   · rw [hv] at hh
     unfold Oper.wp
     simp [execOp,ho,resolve,invoke,builtin,hv,hx,Builtin.append_,run_underlying T.und,sizeOf,typeInfo,hi,Builtin.lenOf,Builtin.firstCells,Result.andThen,hnc,storeCells]
     exact hh
theorem L_append8 (hgd:o.guard=none) (s x:Operand) (t:TypeId) (ho:o.op=.call { callee:=.builtin .append,args:=#[s,x],argTypes:=#[t,t] })
 {e:TypeId} {z:Value} {bytes:Nat} (T:Sl P t e z 1 bytes) (base:Nat) (v:Value) (n:Nat) (xs:List Value) (hs:a.eval s=v) (hown:w.ownsRow base e 1 v n xs)
 (sa:Option Addr) (m c:Nat) (l:List UInt8) (hx:a.eval x=.slice sa m c) (hr:R8 w sa m c l) (hb:(n+m) * bytes≤140737488355328) (hm:n+m≤maxLen) (hbase:base≤w.heap.size)
 (h:∀ a' c' w',w'.ownsRow base e 1 (.slice a' (n+m) c') (n+m) (xs++l.map b8)→w.grownBy w' v.ownBlock→((Value.slice a' (n+m) c').ownBlock=v.ownBlock∨(Value.slice a' (n+m) c').ownBlock=some w.heap.size)→wpList P ops Q rest (a.put o.dst (.slice a' (n+m) c')) w'):wpList P ops Q (o :: rest) a w :=
 wpList_plain hgd fun _ hK=>W_append8 s x t ho T base v n xs hs hown sa m c l hx hr hb hm hbase fun a' c' w' h2 h3 h4=>hK _ _ (h a' c' w' h2 h3 h4)
theorem S_append8 {K:Act→World→Prop} {E:Prop} (hgd:o.guard=none) (s x:Operand) (t:TypeId) (ho:o.op=.call { callee:=.builtin .append,args:=#[s,x],argTypes:=#[t,t] })
 {e:TypeId} {z:Value} {bytes:Nat} (T:Sl P t e z 1 bytes) (base:Nat) (v:Value) (n:Nat) (xs:List Value) (hs:a.eval s=v) (hown:w.ownsRow base e 1 v n xs)
 (sa:Option Addr) (m c:Nat) (l:List UInt8) (hx:a.eval x=.slice sa m c) (hr:R8 w sa m c l) (hb:(n+m) * bytes≤140737488355328) (hm:n+m≤maxLen) (hbase:base≤w.heap.size)
 (h:∀ a' c' w',w'.ownsRow base e 1 (.slice a' (n+m) c') (n+m) (xs++l.map b8)→w.grownBy w' v.ownBlock→((Value.slice a' (n+m) c').ownBlock=v.ownBlock∨(Value.slice a' (n+m) c').ownBlock=some w.heap.size)→K (a.put o.dst (.slice a' (n+m) c')) w') :
 if Region.wanted o (yielded ops a.tmps)=true then Oper.wp P o a w K Q else E:=by
 rw [if_pos (by simp [Region.wanted,hgd])]
 exact W_append8 s x t ho T base v n xs hs hown sa m c l hx hr hb hm hbase h
theorem L_make (hgd:o.guard=none) (l c:Operand) (t:TypeId) (ho:o.op=Op.makeSlice t l c) {e:TypeId} {z:Value} {size bytes:Nat} (T:Sl P t e z size bytes)
 (base:Nat) (kl kc:IntKind) (L:Int) (n:Nat) (hl:a.eval l=.int kl L) (hc:a.eval c=.int kc L) (hL:L=(n:Int)) (hb:bytes * n≤281474976710656) (hn:n≤maxLen) (hbase:base≤w.heap.size)
 (h:∀ w',w'.ownsRow base e size (.slice (some ⟨w.heap.size,0,none⟩) n n) n (madeCells z.cells (n * size)).toList→w.grownBy w' none→wpList P ops Q rest (a.put o.dst (.slice (some ⟨w.heap.size,0,none⟩) n n)) w') :
 wpList P ops Q (o :: rest) a w:=by
 obtain ⟨i,hi,hz0,hz1,hz2⟩:=info_parts T.inf
 exact wpList_make_full w hgd l c t ho base e i z size T.und hi hz0 hz1 kl kc L L n hl hc hL hL (by rw [hz2];exact hb) hn hbase h
end
end
section
theorem ofInt32 (x:UInt32):BitVec.ofInt 32 (x.toNat:Int)=x.toBitVec:=by
 rw [BitVec.ofInt_natCast];simp
theorem wrap_u32_nat {n:Nat} (h:n < 4294967296):IntKind.u32.wrap (n:Int)=n:=by
 simp [IntKind.wrap,IntKind.bits,IntKind.signed];omega
/- The operations on words, behind plain names: simp would carry 'toNat' inward. -/
def xr (x y:UInt32):UInt32:=x ^^^ y
def xb (x:UInt32) (c:UInt8):UInt32:=x ^^^ c.toUInt32
def a15 (x:UInt32):UInt32:=x &&& 15
def s4 (x:UInt32):UInt32:=x >>> 4
def nt (x:UInt32):UInt32:= ~~~ x
@[go_sem] theorem xor_u32 (x y:UInt32):bits .xor .u32 (x.toNat:Int) (y.toNat:Int)=((xr x y).toNat:Int):=by
  simp only [bits,IntKind.bits,ofInt32]
  rw [wrap_u32_nat (BitVec.isLt _)];rfl
@[go_sem] theorem xor_u32_u8 (x:UInt32) (c:UInt8):bits .xor .u32 (x.toNat:Int) (c.toNat:Int)=((xb x c).toNat:Int):=by
  rw [show (c.toNat:Int)=(c.toUInt32.toNat:Int) by simp];exact xor_u32 _ _
@[go_sem] theorem and15_u32 (x:UInt32):bits .and .u32 (x.toNat:Int) 15=((a15 x).toNat:Int):=by
  simp only [bits,IntKind.bits,ofInt32]
  rw [show BitVec.ofInt 32 15=(15:UInt32).toBitVec from rfl,wrap_u32_nat (BitVec.isLt _)];rfl
@[go_sem] theorem shr4_u32 (x:UInt32):(x.toNat:Int) / 16=((s4 x).toNat:Int):=by
  simp [s4,Nat.shiftRight_eq_div_pow]
@[go_sem] theorem u8_u32 (x:UInt8):(x.toNat:Int) % 4294967296=(x.toNat:Int):=by
  have:=x.toNat_lt
  omega
@[go_sem] theorem mod_u32 (x:UInt32):(x.toNat:Int) % 4294967296=(x.toNat:Int):=by
  have:=x.toNat_lt
  omega
@[go_sem] theorem not_u32 (x:UInt32):bits .xor .u32 IntKind.u32.max (x.toNat:Int)=((nt x).toNat:Int):=by
  simp only [bits,IntKind.bits,ofInt32]
  rw [show BitVec.ofInt 32 IntKind.u32.max=BitVec.allOnes 32 from rfl,wrap_u32_nat (BitVec.isLt _)]
  have e:(BitVec.allOnes 32 ^^^ x.toBitVec)= ~~~ x.toBitVec:=BitVec.allOnes_xor
  exact congrArg (fun b:BitVec 32=>(b.toNat:Int)) e
@[go_sem] theorem a15_lt (x:UInt32):(((a15 x).toNat:Int) < 16)=True:=by
  have h:(a15 x).toNat < 16:=by
   rw [a15,UInt32.toNat_and]
   exact Nat.lt_succ_of_le Nat.and_le_right
  simp only [eq_iff_iff,iff_true];omega
def halfL:List UInt32:=[0x00000000,0x1db71064,0x3b6e20c8,0x26d930ac,0x76dc4190,0x6b6b51f4,0x4db26158,0x5005713c,
 0xedb88320,0xf00f9344,0xd6d6a3e8,0xcb61b38c,0x9b64c2b0,0x86d3d2d4,0xa00ae278,0xbdbdf21c]
def half (i:UInt32):UInt32:=halfL.getD i.toNat 0
def nib (r:UInt32):UInt32:=xr (s4 r) (half (a15 r))
def byteStep (r:UInt32) (c:UInt8):UInt32:=nib (nib (xb r c))
def thr (r:UInt32) (l:List UInt8):UInt32:=l.foldl byteStep r
def HalfTab (w:World):Prop:=∀ i,i < 16→w.cell? ⟨2,i,none⟩=some (.int .u32 ((halfL.getD i 0).toNat:Int))
theorem HalfTab.get {w:World} (h:HalfTab w) (x:UInt32):w.cell? ⟨2,(a15 x).toNat,none⟩=some (.int .u32 ((half (a15 x)).toNat:Int)):=by
 refine h _ ?_
 have:=of_eq_true (a15_lt x)
 omega
theorem thr_take (r:UInt32) (l:List UInt8) (k:Nat) (c:UInt8) (h:l[k]?=some c):thr r (l.take (k+1))=nib (nib (xb (thr r (l.take k)) c)):=by
 rw [List.take_add_one,h];simp [thr,byteStep]
theorem nib_fold (r:UInt32):xr (s4 r) (half (a15 r))=nib r:=rfl
set_option maxHeartbeats 400000 in
theorem through_any (w:World) (r:UInt32) (a:Option Addr) (len cap:Nat) (l:List UInt8) (h:R8 w a len cap l) (ht:HalfTab w) :
 Calls Tryz.prog 212 #[.int .u32 (r.toNat:Int),.slice a len cap] w fun e w'=>e=.returned (.int .u32 ((thr r l).toNat:Int))∧w=w':=by
 have hm:len≤281474976710656:=h.2.2.1
 have ht':=ht.get
 have hnib:=nib_fold
 go_enter Tryz.func212,Tryz.ntmps212
 go_wp2
 go_loop [0,9] (fun x i=>∃ k:Nat,k≤len∧i=.int .i64 k∧x=.int .u32 ((thr r (l.take k)).toNat:Int)) (fun _ i=>len - (intOf i).toNat)
 case atStart=>exact ⟨0,by omega,rfl,rfl⟩
 case round => 
  obtain ⟨k,hk,rfl,rfl⟩:=hrel
  by_cases hlt:k < len
  · obtain ⟨b,off,c,rfl,hl,hck⟩:=h.at hlt
    have hs:=(thr_take r l k c hl).symm
    clear h
    go_wp2
    go_round
    case rel=>exact ⟨k+1,by omega,by go_num,rfl⟩
    case measure=>simp [intOf];omega
  · obtain rfl:k=len:=by omega
    have ht:l.take k=l:=by rw [← h.1];simp
    rw [ht]
    go_wp2
    go_ret
    exact ⟨rfl,rfl⟩
set_option maxHeartbeats 400000 in
theorem crc_any (w:World) (a:Option Addr) (len cap:Nat) (l:List UInt8) (h:R8 w a len cap l) (ht:HalfTab w) :
 Calls Tryz.prog 162 #[.slice a len cap] w fun e w'=>e=.returned (.int .u32 ((nt (thr 4294967295 l)).toNat:Int))∧w=w':=by
 go_enter Tryz.func162,Tryz.ntmps162
 go_wp2_with (go_at_call 212;refine (through_any _ 4294967295 _ _ _ _ h ht).mono ?_;rintro e w' ⟨rfl,rfl⟩)
 go_ret
 exact ⟨rfl,rfl⟩
theorem sl22:Sl Tryz.prog 53 5 (.int .u8 0) 1 1:=⟨Tryz.underlying53,by kernel_rfl,rfl,by decide⟩
def Wr (w:World) (B gw:Nat) (l:List UInt8):Prop :=
 B≤gw∧∃ v,w.heap[gw]?=some (.cells #[v] 308 (0,0))∧w.ownsRow B 5 1 v l.length (l.map b8)
def be (k n:Nat):List UInt8:=(List.range k).map fun j=>UInt8.ofNat (n / 2 ^ (8 * (k - 1 - j)))
theorem be_len (k n:Nat):(be k n).length=k:=by simp [be]
theorem be_take (k n j:Nat) (h:j < k):(be k n).take (j+1)=(be k n).take j++[UInt8.ofNat (n / 2 ^ (8 * (k - 1 - j)))]:=by
 rw [List.take_add_one]
 simp [be,h]
theorem wrap_byte (n s:Nat):IntKind.u8.wrap ((n:Int) / 2 ^ s)=((UInt8.ofNat (n / 2 ^ s)).toNat:Int):=by
 simp [IntKind.wrap,IntKind.bits,IntKind.signed]
theorem own_neW {w:World} {B e t gw size:Nat} {v u:Value} {n:Nat} {xs:List Value} {fr:Nat × Nat} (ho:w.ownsRow B e size v n xs) (hh:w.heap[gw]?=some (.cells #[u] t fr)) (hne:t ≠ e):some gw ≠ v.ownBlock:=by
 rcases ho.2 with ⟨rfl,_⟩ | ⟨g,cap,cur,rfl,_,hg,_⟩
 · simp [Value.ownBlock]
 · simp only [Value.ownBlock]
   rintro h
   obtain rfl:=Option.some.inj h
   rw [hh] at hg
   simp at hg
   exact hne hg.2.1
theorem width_pos (n:Nat) (h:0 < n):0 < 2 ^ (8 * n) - 1:=by
 have:2 ^ 1≤2 ^ (8 * n):=Nat.pow_le_pow_right (by omega) (by omega)
 omega
theorem width_step (n i:Nat) (h:0 < n) (hi:i < 8):(2 ^ (8 * n - i) - 1) / 2=2 ^ (8 * n - (i+1)) - 1:=by
 have e:8 * n - i=(8 * n - (i+1))+1:=by omega
 rw [e,Nat.pow_succ];omega
theorem new_any (w:World):Calls Tryz.prog 157 #[] w fun e w'=>∃ gw,e=.returned (.pointer (some ⟨gw,0,none⟩))∧Wr w' w.heap.size gw []∧Below w.heap.size w w':=by
 go_enter Tryz.func157,Tryz.ntmps157
 go_wp2
 go_ret
 exact ⟨_,rfl,⟨Nat.le_refl _,_,heap_alloc_new w _,World.ownsRow_nil _ _ _ _⟩,(Below.refl _ _).alloc (Nat.le_refl _) _⟩
theorem width8 (w:World):Calls Tryz.prog 209 #[] w fun e w'=>e=.returned (.int .i64 1)∧w=w':=by
 go_enter Tryz.func209,Tryz.ntmps209
 have hmx:bits .xor .u8 IntKind.u8.max 0=((2 ^ (8 * 1) - 1:Nat):Int):=by decide +kernel
 go_wp2
 go_loop [1,2,9] (fun n m i=>∃ j:Nat,j≤1∧n=.int .i64 j∧m=.int .u8 ((2 ^ (8 * (1 - j)) - 1:Nat):Int)) (fun n _ _=>1 - (intOf n).toNat)
 case atStart=>exact ⟨0,by omega,rfl,rfl⟩
 case round =>
  obtain ⟨j,hj,rfl,rfl⟩:=hrel
  by_cases hlt:j < 1
  · have hp:=width_pos (1 - j) (by omega)
    have hst:=fun i (hi:i < 8)=>width_step (1 - j) i (by omega) hi
    have hne:(((2 ^ (8 * (1 - j)) - 1:Nat):Int) == 0)=false:=by simp;omega
    have hnn:(((2 ^ (8 * (1 - j)) - 1:Nat):Int) != 0)=true:=by simp;omega
    have hfin:2 ^ (8 * (1 - j) - 8) - 1=2 ^ (8 * (1 - (j+1))) - 1:=by rw [show 8 * (1 - j) - 8=8 * (1 - (j+1)) by omega]
    have Hst:=hid hst;clear hst
    have Hfin:=hid hfin;clear hfin
    have h0:2 ^ (8 * (1 - j)) - 1=2 ^ (8 * (1 - j) - 0) - 1:=rfl
    generalize 8 * (1 - j)=q at *
    go_wp2
    go_loop [2,9] (fun m i=>∃ t:Nat,t≤8∧i=.int .i64 t∧m=.int .u8 ((2 ^ (q - t) - 1:Nat):Int)) (fun _ i=>8 - (intOf i).toNat)
    case atStart=>exact ⟨0,by omega,rfl,rfl⟩
    case round =>
     obtain ⟨t,ht,rfl,rfl⟩:=hrel
     by_cases h8:t < 8
     · have hs:=Hst.out t h8
       generalize 2 ^ (q - t) - 1=x at *
       go_wp2
       go_round
       case rel=>exact ⟨t+1,by omega,by go_num,by rw [← hs];go_num⟩
       case measure=>simp [intOf];omega
     · obtain rfl:t=8:=by omega
       rw [Hfin.out]
       go_wp2
       go_round
       case rel=>exact ⟨j+1,by omega,by go_num,rfl⟩
       case measure=>simp [intOf];omega
  · obtain rfl:j=1:=by omega
    go_wp2
    go_ret
    exact ⟨rfl,rfl⟩
theorem width32 (w:World):Calls Tryz.prog 211 #[] w fun e w'=>e=.returned (.int .i64 4)∧w=w':=by
 go_enter Tryz.func211,Tryz.ntmps211
 have hmx:bits .xor .u32 IntKind.u32.max 0=((2 ^ (8 * 4) - 1:Nat):Int):=by decide +kernel
 go_wp2
 go_loop [1,2,9] (fun n m i=>∃ j:Nat,j≤4∧n=.int .i64 j∧m=.int .u32 ((2 ^ (8 * (4 - j)) - 1:Nat):Int)) (fun n _ _=>4 - (intOf n).toNat)
 case atStart=>exact ⟨0,by omega,rfl,rfl⟩
 case round =>
  obtain ⟨j,hj,rfl,rfl⟩:=hrel
  by_cases hlt:j < 4
  · have hp:=width_pos (4 - j) (by omega)
    have hst:=fun i (hi:i < 8)=>width_step (4 - j) i (by omega) hi
    have hne:(((2 ^ (8 * (4 - j)) - 1:Nat):Int) == 0)=false:=by simp;omega
    have hnn:(((2 ^ (8 * (4 - j)) - 1:Nat):Int) != 0)=true:=by simp;omega
    have hfin:2 ^ (8 * (4 - j) - 8) - 1=2 ^ (8 * (4 - (j+1))) - 1:=by rw [show 8 * (4 - j) - 8=8 * (4 - (j+1)) by omega]
    have Hst:=hid hst;clear hst
    have Hfin:=hid hfin;clear hfin
    have h0:2 ^ (8 * (4 - j)) - 1=2 ^ (8 * (4 - j) - 0) - 1:=rfl
    generalize 8 * (4 - j)=q at *
    go_wp2
    go_loop [2,9] (fun m i=>∃ t:Nat,t≤8∧i=.int .i64 t∧m=.int .u32 ((2 ^ (q - t) - 1:Nat):Int)) (fun _ i=>8 - (intOf i).toNat)
    case atStart=>exact ⟨0,by omega,rfl,rfl⟩
    case round =>
     obtain ⟨t,ht,rfl,rfl⟩:=hrel
     by_cases h8:t < 8
     · have hs:=Hst.out t h8
       generalize 2 ^ (q - t) - 1=x at *
       go_wp2
       go_round
       case rel=>exact ⟨t+1,by omega,by go_num,by rw [← hs];go_num⟩
       case measure=>simp [intOf];omega
     · obtain rfl:t=8:=by omega
       rw [Hfin.out]
       go_wp2
       go_round
       case rel=>exact ⟨j+1,by omega,by go_num,rfl⟩
       case measure=>simp [intOf];omega
  · obtain rfl:j=4:=by omega
    go_wp2
    go_ret
    exact ⟨rfl,rfl⟩
theorem width64 (w:World):Calls Tryz.prog 210 #[] w fun e w'=>e=.returned (.int .i64 8)∧w=w':=by
 go_enter Tryz.func210,Tryz.ntmps210
 have hmx:bits .xor .u64 IntKind.u64.max 0=((2 ^ (8 * 8) - 1:Nat):Int):=by decide +kernel
 go_wp2
 go_loop [1,2,9] (fun n m i=>∃ j:Nat,j≤8∧n=.int .i64 j∧m=.int .u64 ((2 ^ (8 * (8 - j)) - 1:Nat):Int)) (fun n _ _=>8 - (intOf n).toNat)
 case atStart=>exact ⟨0,by omega,rfl,rfl⟩
 case round =>
  obtain ⟨j,hj,rfl,rfl⟩:=hrel
  by_cases hlt:j < 8
  · have hp:=width_pos (8 - j) (by omega)
    have hst:=fun i (hi:i < 8)=>width_step (8 - j) i (by omega) hi
    have hne:(((2 ^ (8 * (8 - j)) - 1:Nat):Int) == 0)=false:=by simp;omega
    have hnn:(((2 ^ (8 * (8 - j)) - 1:Nat):Int) != 0)=true:=by simp;omega
    have hfin:2 ^ (8 * (8 - j) - 8) - 1=2 ^ (8 * (8 - (j+1))) - 1:=by rw [show 8 * (8 - j) - 8=8 * (8 - (j+1)) by omega]
    have Hst:=hid hst;clear hst
    have Hfin:=hid hfin;clear hfin
    have h0:2 ^ (8 * (8 - j)) - 1=2 ^ (8 * (8 - j) - 0) - 1:=rfl
    generalize 8 * (8 - j)=q at *
    go_wp2
    go_loop [2,9] (fun m i=>∃ t:Nat,t≤8∧i=.int .i64 t∧m=.int .u64 ((2 ^ (q - t) - 1:Nat):Int)) (fun _ i=>8 - (intOf i).toNat)
    case atStart=>exact ⟨0,by omega,rfl,rfl⟩
    case round =>
     obtain ⟨t,ht,rfl,rfl⟩:=hrel
     by_cases h8:t < 8
     · have hs:=Hst.out t h8
       generalize 2 ^ (q - t) - 1=x at *
       go_wp2
       go_round
       case rel=>exact ⟨t+1,by omega,by go_num,by rw [← hs];go_num⟩
       case measure=>simp [intOf];omega
     · obtain rfl:t=8:=by omega
       rw [Hfin.out]
       go_wp2
       go_round
       case rel=>exact ⟨j+1,by omega,by go_num,rfl⟩
       case measure=>simp [intOf];omega
  · obtain rfl:j=8:=by omega
    go_wp2
    go_ret
    exact ⟨rfl,rfl⟩
set_option maxHeartbeats 1000000 in
theorem put64_any (w:World) (B gw:Nat) (l:List UInt8) (n:UInt64) (h:Wr w B gw l) (hb:l.length≤1000000000000) (hB:B≤w.heap.size) :
 Calls Tryz.prog 159 #[.pointer (some ⟨gw,0,none⟩),.int .u64 (n.toNat:Int)] w fun e w'=>e=.returned (.tuple #[])∧Wr w' B gw (l++be 8 n.toNat)∧Below B w w':=by
 go_enter Tryz.func159,Tryz.ntmps159
 go_wp2_with (go_at_call 210;refine (width64 _).mono ?_;rintro e w' ⟨rfl,rfl⟩)
 go_loopw [4] (fun i wr=>∃ j:Nat,j≤8∧i=.int .i64 (7 - (j:Int))∧Wr wr B gw (l++(be 8 n.toNat).take j)∧Below B w wr) (fun i _=>(intOf i+1).toNat)
 case atStart=>exact ⟨0,by omega,rfl,by simpa using h,Below.refl _ _⟩
 case round =>
  obtain ⟨j,hj,rfl,⟨hgw,v,hh,ho⟩,hbl⟩:=hrel
  by_cases hlt:j < 8
  · have hsz:=hbl.size
    have hc:=cell_of_row wr gw 0 _ _ _ hh
    have hf:=frozen_of_row wr gw 0 _ _ hh
    have hlt2:=block_lt_of_cell hc
    simp only [List.getElem?_toArray,List.getElem?_cons_zero] at hc
    obtain ⟨q,hq⟩:∃ q:Nat,q=7 - j:=⟨_,rfl⟩
    have hq1:((7:Int) - (j:Int))=(q:Int):=by omega
    have hqq:=hid hq
    have hq8:q < 8:=by omega
    have hbt:=be_take 8 n.toNat j hlt
    rw [show 8 - 1 - j=q by omega] at hbt
    have HBT:=hid hbt
    have hlen:(l++(be 8 n.toNat).take j).length≤1000000000008:=by simp [be_len];omega
    rw [hq1]
    clear h hq hq1 hbt
    have hw1:IntKind.i64.wrap (8 * (q:Int))=8 * (q:Int):=by simp [IntKind.wrap,IntKind.bits,IntKind.signed];omega
    have hp0:(0:Int)≤8 * (q:Int):=by omega
    have hp1:8 * (q:Int)≤64:=by omega
    have hp2:(8 * (q:Int)).toNat=8 * q:=by omega
    have hwb:=wrap_byte n.toNat (8 * q)
    generalize hLL:l++(be 8 n.toNat).take j=L at *
    have HLL:=hid hLL;clear hLL
    generalize hcc:UInt8.ofNat (n.toNat / 2 ^ (8 * q))=c at *
    have HCC:=hid hcc;clear hcc
    go_wp2
    have hca:∀ o,(wr.alloc o).cell? ⟨gw,0,none⟩=some v∧(wr.alloc o).frozen? ⟨gw,0,none⟩=false:=fun o =>
     ⟨by rw [World.cell?_alloc_past (hn:=hlt2)];exact hc,by rw [World.frozen?_alloc_past (hn:=hlt2)];exact hf⟩
    have hne:=own_neW ho hh (by decide)
    go_region_law (first
     | (refine S_append8 rfl (.tmp 17) (.tmp 23) 53 (by rfl) sl22 B v _ _ (by rfl) (ho.alloc _) (some ⟨wr.heap.size,0,none⟩) 1 1 [c] (by rfl) (R8.lit _ 5 _ [c] 1 rfl (by omega) _ rfl) (by omega) (by simp [maxLen];omega) (by simp;omega) (fun a2 c2 w2 ho2 hg2 hat2=>?_)
        have hc2:=(hg2.cell_far ⟨gw,0,none⟩ (by simp;omega) hne).trans (hca _).1
        have hf2:=(hg2.frozen_far ⟨gw,0,none⟩ (by simp;omega) hne).trans (hca _).2))
    all_goals
     have hh2:w2.heap[gw]?=some (.cells #[v] 308 (0,0)):=(hg2.block gw (by simp;omega) hne).trans ((Below.heap_alloc _ _ _ hlt2).trans hh)
     have hne2:=own_neW ho2 hh2 (by decide)
     have hh3:=heap_setCell_same w2 gw 0 _ _ (.slice a2 (L.length+1) c2) hh2
     have hgs:w2.grownBy (w2.setCell ⟨gw,0,none⟩ (.slice a2 (L.length+1) c2)) (some gw):=⟨rfl,rfl,rfl,by simp,fun k _ hk=>heap_setCell_other w2 ⟨gw,0,none⟩ k _ (fun e=>hk (by simp [e]))⟩
     have ho3:=ho2.kept hgs (.inr (fun e=>hne2 e.symm))
     have hbl3:Below B w (w2.setCell ⟨gw,0,none⟩ (.slice a2 (L.length+1) c2)):=(((hbl.alloc (by omega) _).drew).grown hg2 (by simp;omega) (fun k hk=>(ho.lt k hk).1)).setCell hgw _
     clear hgs hne2 hh2 ho2 hg2 hat2 hc2 hf2 hca hne
     go_wp2
     go_roundw
     case rel =>
      refine ⟨j+1,by omega,by rw [show ((q:Int) - 1)=7 - ((j+1:Nat):Int) from by have:=hqq.out;omega],⟨hgw,_,hh3,?_⟩,hbl3⟩
      rw [HBT.out,← List.append_assoc,HLL.out]
      simpa using ho3
     case measure=>simp [intOf]
  · obtain rfl:j=8:=by omega
    have hfull:(be 8 n.toNat).take 8=be 8 n.toNat:=List.take_of_length_le (by rw [be_len];omega)
    rw [hfull] at ho
    have Hh:=hid hh
    clear hh
    go_wp2
    go_end0
    exact ⟨rfl,⟨hgw,v,Hh.out,ho⟩,hbl⟩
set_option maxHeartbeats 1000000 in
theorem put32_any (w:World) (B gw:Nat) (l:List UInt8) (n:UInt32) (h:Wr w B gw l) (hb:l.length≤1000000000000) (hB:B≤w.heap.size) :
 Calls Tryz.prog 161 #[.pointer (some ⟨gw,0,none⟩),.int .u32 (n.toNat:Int)] w fun e w'=>e=.returned (.tuple #[])∧Wr w' B gw (l++be 4 n.toNat)∧Below B w w':=by
 go_enter Tryz.func161,Tryz.ntmps161
 go_wp2_with (go_at_call 211;refine (width32 _).mono ?_;rintro e w' ⟨rfl,rfl⟩)
 go_loopw [4] (fun i wr=>∃ j:Nat,j≤4∧i=.int .i64 (3 - (j:Int))∧Wr wr B gw (l++(be 4 n.toNat).take j)∧Below B w wr) (fun i _=>(intOf i+1).toNat)
 case atStart=>exact ⟨0,by omega,rfl,by simpa using h,Below.refl _ _⟩
 case round =>
  obtain ⟨j,hj,rfl,⟨hgw,v,hh,ho⟩,hbl⟩:=hrel
  by_cases hlt:j < 4
  · have hsz:=hbl.size
    have hc:=cell_of_row wr gw 0 _ _ _ hh
    have hf:=frozen_of_row wr gw 0 _ _ hh
    have hlt2:=block_lt_of_cell hc
    simp only [List.getElem?_toArray,List.getElem?_cons_zero] at hc
    obtain ⟨q,hq⟩:∃ q:Nat,q=3 - j:=⟨_,rfl⟩
    have hq1:((3:Int) - (j:Int))=(q:Int):=by omega
    have hqq:=hid hq
    have hq8:q < 8:=by omega
    have hbt:=be_take 4 n.toNat j hlt
    rw [show 4 - 1 - j=q by omega] at hbt
    have HBT:=hid hbt
    have hlen:(l++(be 4 n.toNat).take j).length≤1000000000008:=by simp [be_len];omega
    rw [hq1]
    clear h hq hq1 hbt
    have hw1:IntKind.i64.wrap (8 * (q:Int))=8 * (q:Int):=by simp [IntKind.wrap,IntKind.bits,IntKind.signed];omega
    have hp0:(0:Int)≤8 * (q:Int):=by omega
    have hp1:8 * (q:Int)≤64:=by omega
    have hp2:(8 * (q:Int)).toNat=8 * q:=by omega
    have hwb:=wrap_byte n.toNat (8 * q)
    have hcv:IntKind.u64.wrap (n.toNat:Int)=(n.toNat:Int):=by
     have:=n.toNat_lt
     simp [IntKind.wrap,IntKind.bits,IntKind.signed];omega
    generalize hLL:l++(be 4 n.toNat).take j=L at *
    have HLL:=hid hLL;clear hLL
    generalize hcc:UInt8.ofNat (n.toNat / 2 ^ (8 * q))=c at *
    have HCC:=hid hcc;clear hcc
    go_wp2
    have hca:∀ o,(wr.alloc o).cell? ⟨gw,0,none⟩=some v∧(wr.alloc o).frozen? ⟨gw,0,none⟩=false:=fun o =>
     ⟨by rw [World.cell?_alloc_past (hn:=hlt2)];exact hc,by rw [World.frozen?_alloc_past (hn:=hlt2)];exact hf⟩
    have hne:=own_neW ho hh (by decide)
    go_region_law (first
     | (refine S_append8 rfl (.tmp 17) (.tmp 24) 53 (by rfl) sl22 B v _ _ (by rfl) (ho.alloc _) (some ⟨wr.heap.size,0,none⟩) 1 1 [c] (by rfl) (R8.lit _ 5 _ [c] 1 rfl (by omega) _ rfl) (by omega) (by simp [maxLen];omega) (by simp;omega) (fun a2 c2 w2 ho2 hg2 hat2=>?_)
        have hc2:=(hg2.cell_far ⟨gw,0,none⟩ (by simp;omega) hne).trans (hca _).1
        have hf2:=(hg2.frozen_far ⟨gw,0,none⟩ (by simp;omega) hne).trans (hca _).2))
    all_goals
     have hh2:w2.heap[gw]?=some (.cells #[v] 308 (0,0)):=(hg2.block gw (by simp;omega) hne).trans ((Below.heap_alloc _ _ _ hlt2).trans hh)
     have hne2:=own_neW ho2 hh2 (by decide)
     have hh3:=heap_setCell_same w2 gw 0 _ _ (.slice a2 (L.length+1) c2) hh2
     have hgs:w2.grownBy (w2.setCell ⟨gw,0,none⟩ (.slice a2 (L.length+1) c2)) (some gw):=⟨rfl,rfl,rfl,by simp,fun k _ hk=>heap_setCell_other w2 ⟨gw,0,none⟩ k _ (fun e=>hk (by simp [e]))⟩
     have ho3:=ho2.kept hgs (.inr (fun e=>hne2 e.symm))
     have hbl3:Below B w (w2.setCell ⟨gw,0,none⟩ (.slice a2 (L.length+1) c2)):=(((hbl.alloc (by omega) _).drew).grown hg2 (by simp;omega) (fun k hk=>(ho.lt k hk).1)).setCell hgw _
     clear hgs hne2 hh2 ho2 hg2 hat2 hc2 hf2 hca hne
     go_wp2
     go_roundw
     case rel =>
      refine ⟨j+1,by omega,by rw [show ((q:Int) - 1)=3 - ((j+1:Nat):Int) from by have:=hqq.out;omega],⟨hgw,_,hh3,?_⟩,hbl3⟩
      rw [HBT.out,← List.append_assoc,HLL.out]
      simpa using ho3
     case measure=>simp [intOf]
  · obtain rfl:j=4:=by omega
    have hfull:(be 4 n.toNat).take 4=be 4 n.toNat:=List.take_of_length_le (by rw [be_len];omega)
    rw [hfull] at ho
    have Hh:=hid hh
    clear hh
    go_wp2
    go_end0
    exact ⟨rfl,⟨hgw,v,Hh.out,ho⟩,hbl⟩
set_option maxHeartbeats 1000000 in
theorem put8_any (w:World) (B gw:Nat) (l:List UInt8) (n:UInt8) (h:Wr w B gw l) (hb:l.length≤1000000000000) (hB:B≤w.heap.size) :
 Calls Tryz.prog 158 #[.pointer (some ⟨gw,0,none⟩),.int .u8 (n.toNat:Int)] w fun e w'=>e=.returned (.tuple #[])∧Wr w' B gw (l++be 1 n.toNat)∧Below B w w':=by
 go_enter Tryz.func158,Tryz.ntmps158
 go_wp2_with (go_at_call 209;refine (width8 _).mono ?_;rintro e w' ⟨rfl,rfl⟩)
 go_loopw [4] (fun i wr=>∃ j:Nat,j≤1∧i=.int .i64 (0 - (j:Int))∧Wr wr B gw (l++(be 1 n.toNat).take j)∧Below B w wr) (fun i _=>(intOf i+1).toNat)
 case atStart=>exact ⟨0,by omega,rfl,by simpa using h,Below.refl _ _⟩
 case round =>
  obtain ⟨j,hj,rfl,⟨hgw,v,hh,ho⟩,hbl⟩:=hrel
  by_cases hlt:j < 1
  · have hsz:=hbl.size
    have hc:=cell_of_row wr gw 0 _ _ _ hh
    have hf:=frozen_of_row wr gw 0 _ _ hh
    have hlt2:=block_lt_of_cell hc
    simp only [List.getElem?_toArray,List.getElem?_cons_zero] at hc
    obtain ⟨q,hq⟩:∃ q:Nat,q=0 - j:=⟨_,rfl⟩
    have hq1:((0:Int) - (j:Int))=(q:Int):=by omega
    have hqq:=hid hq
    have hq8:q < 8:=by omega
    have hbt:=be_take 1 n.toNat j hlt
    rw [show 1 - 1 - j=q by omega] at hbt
    have HBT:=hid hbt
    have hlen:(l++(be 1 n.toNat).take j).length≤1000000000008:=by simp [be_len];omega
    rw [hq1]
    clear h hq hq1 hbt
    have hw1:IntKind.i64.wrap (8 * (q:Int))=8 * (q:Int):=by simp [IntKind.wrap,IntKind.bits,IntKind.signed];omega
    have hp0:(0:Int)≤8 * (q:Int):=by omega
    have hp1:8 * (q:Int)≤64:=by omega
    have hp2:(8 * (q:Int)).toNat=8 * q:=by omega
    have hwb:=wrap_byte n.toNat (8 * q)
    have hcv:IntKind.u64.wrap (n.toNat:Int)=(n.toNat:Int):=by
     have:=n.toNat_lt
     simp [IntKind.wrap,IntKind.bits,IntKind.signed];omega
    generalize hLL:l++(be 1 n.toNat).take j=L at *
    have HLL:=hid hLL;clear hLL
    generalize hcc:UInt8.ofNat (n.toNat / 2 ^ (8 * q))=c at *
    have HCC:=hid hcc;clear hcc
    go_wp2
    have hca:∀ o,(wr.alloc o).cell? ⟨gw,0,none⟩=some v∧(wr.alloc o).frozen? ⟨gw,0,none⟩=false:=fun o =>
     ⟨by rw [World.cell?_alloc_past (hn:=hlt2)];exact hc,by rw [World.frozen?_alloc_past (hn:=hlt2)];exact hf⟩
    have hne:=own_neW ho hh (by decide)
    go_region_law (first
     | (refine S_append8 rfl (.tmp 17) (.tmp 24) 53 (by rfl) sl22 B v _ _ (by rfl) (ho.alloc _) (some ⟨wr.heap.size,0,none⟩) 1 1 [c] (by rfl) (R8.lit _ 5 _ [c] 1 rfl (by omega) _ rfl) (by omega) (by simp [maxLen];omega) (by simp;omega) (fun a2 c2 w2 ho2 hg2 hat2=>?_)
        have hc2:=(hg2.cell_far ⟨gw,0,none⟩ (by simp;omega) hne).trans (hca _).1
        have hf2:=(hg2.frozen_far ⟨gw,0,none⟩ (by simp;omega) hne).trans (hca _).2))
    all_goals
     have hh2:w2.heap[gw]?=some (.cells #[v] 308 (0,0)):=(hg2.block gw (by simp;omega) hne).trans ((Below.heap_alloc _ _ _ hlt2).trans hh)
     have hne2:=own_neW ho2 hh2 (by decide)
     have hh3:=heap_setCell_same w2 gw 0 _ _ (.slice a2 (L.length+1) c2) hh2
     have hgs:w2.grownBy (w2.setCell ⟨gw,0,none⟩ (.slice a2 (L.length+1) c2)) (some gw):=⟨rfl,rfl,rfl,by simp,fun k _ hk=>heap_setCell_other w2 ⟨gw,0,none⟩ k _ (fun e=>hk (by simp [e]))⟩
     have ho3:=ho2.kept hgs (.inr (fun e=>hne2 e.symm))
     have hbl3:Below B w (w2.setCell ⟨gw,0,none⟩ (.slice a2 (L.length+1) c2)):=(((hbl.alloc (by omega) _).drew).grown hg2 (by simp;omega) (fun k hk=>(ho.lt k hk).1)).setCell hgw _
     clear hgs hne2 hh2 ho2 hg2 hat2 hc2 hf2 hca hne
     go_wp2
     go_roundw
     case rel =>
      refine ⟨j+1,by omega,by rw [show ((q:Int) - 1)=0 - ((j+1:Nat):Int) from by have:=hqq.out;omega],⟨hgw,_,hh3,?_⟩,hbl3⟩
      rw [HBT.out,← List.append_assoc,HLL.out]
      simpa using ho3
     case measure=>simp [intOf]
  · obtain rfl:j=1:=by omega
    have hfull:(be 1 n.toNat).take 1=be 1 n.toNat:=List.take_of_length_le (by rw [be_len];omega)
    rw [hfull] at ho
    have Hh:=hid hh
    clear hh
    go_wp2
    go_end0
    exact ⟨rfl,⟨hgw,v,Hh.out,ho⟩,hbl⟩
def crc (l:List UInt8):UInt32:=nt (thr 4294967295 l)
theorem Wr.len {w:World} {B gw:Nat} {l:List UInt8} (h:Wr w B gw l):gw < w.heap.size:=(Array.getElem?_eq_some_iff.1 h.2.choose_spec.1).1
theorem Wr.below {w w':World} {B gw:Nat} {l:List UInt8} (h:Wr w B gw l) (hb:Below w.heap.size w w'):Wr w' B gw l:=by
 have hl:=h.len
 obtain ⟨hg,v,hh,ho⟩:=h
 exact ⟨hg,v,(hb.block gw hl).trans hh,ho.kept (row:=none) ⟨hb.os,hb.tape,hb.output,hb.size,fun k hk _=>hb.block k hk⟩ (by cases v.ownBlock <;> simp)⟩
theorem HalfTab.below {w w':World} {B:Nat} (h:HalfTab w) (hb:Below B w w') (h0:2 < B):HalfTab w':=fun i hi=>by
 rw [hb.cell (by show 2 < B;exact h0)];exact h i hi
theorem R8.of_owns' {w:World} {base e:Nat} {a:Option Addr} {n c:Nat} {l:List UInt8} (h:w.ownsRow base e 1 (.slice a n c) n (l.map b8)) (hn:l.length≤281474976710656):R8 w a n c l :=
 R8.of_owns h (by have:=h.1;simp at this;omega)
set_option maxHeartbeats 400000 in
theorem all_any (w:World) (B gw:Nat) (l:List UInt8) (h:Wr w B gw l) (hl:l.length≤1000000000000) :
 Calls Tryz.prog 163 #[.pointer (some ⟨gw,0,none⟩)] w fun e w'=>∃ a n c,e=.returned (.slice a n c)∧w'.ownsRow w.heap.size 5 1 (.slice a n c) n (l.map b8)∧Below w.heap.size w w':=by
 obtain ⟨hg,v,hh,ho⟩:=h
 obtain ⟨a,c,rfl,-⟩:=owns_shape ho
 have hc:=cell_of_row w gw 0 _ _ _ hh
 have hr:=R8.of_owns ho (by omega)
 simp only [List.getElem?_toArray,List.getElem?_cons_zero] at hc
 clear hh
 go_enter Tryz.func163,Tryz.ntmps163
 go_wp2_with (first
  | (at_builtin;refine L_append8 rfl _ _ _ rfl sl22 w.heap.size (.slice none 0 0) 0 [] rfl (World.ownsRow_nil _ _ _ _) _ _ _ l rfl hr (by omega) (by simp [maxLen];omega) (Nat.le_refl _) (fun a3 c3 w3 ho3 hg3 _=>?_)))
 go_ret
 simp only [Nat.zero_add,List.nil_append] at ho3 ⊢
 exact ⟨_,_,_,rfl,ho3,(Below.refl _ _).grown hg3 (Nat.le_refl _) (by intro k hk;cases hk)⟩
theorem put64_nat (w:World) (B gw:Nat) (l:List UInt8) (n:Nat) (hn:n < 18446744073709551616) (h:Wr w B gw l) (hb:l.length≤1000000000000) (hB:B≤w.heap.size) :
 Calls Tryz.prog 159 #[.pointer (some ⟨gw,0,none⟩),.int .u64 (n:Int)] w fun e w'=>e=.returned (.tuple #[])∧Wr w' B gw (l++be 8 n)∧Below B w w':=by
 have:=put64_any w B gw l (UInt64.ofNat n) h hb hB
 rwa [show (UInt64.ofNat n).toNat=n by simp;omega] at this
theorem put32_nat (w:World) (B gw:Nat) (l:List UInt8) (n:Nat) (hn:n < 4294967296) (h:Wr w B gw l) (hb:l.length≤1000000000000) (hB:B≤w.heap.size) :
 Calls Tryz.prog 161 #[.pointer (some ⟨gw,0,none⟩),.int .u32 (n:Int)] w fun e w'=>e=.returned (.tuple #[])∧Wr w' B gw (l++be 4 n)∧Below B w w':=by
 have:=put32_any w B gw l (UInt32.ofNat n) h hb hB
 rwa [show (UInt32.ofNat n).toNat=n by simp;omega] at this
end
section
theorem half_top:∀ i j:Fin 16,(half (UInt32.ofNat i.val)).toNat / 268435456=(half (UInt32.ofNat j.val)).toNat / 268435456→i=j:=by decide +kernel
theorem xr_cancel (x y z:UInt32) (h:xr x z=xr y z):x=y:=by
 unfold xr at h
 have:=congrArg (· ^^^ z) h
 simpa [UInt32.xor_assoc] using this
theorem a15_nat (r:UInt32):(a15 r).toNat=r.toNat % 16:=by
 unfold a15
 rw [UInt32.toNat_and]
 exact Nat.and_two_pow_sub_one_eq_mod r.toNat 4
theorem s4_nat (r:UInt32):(s4 r).toNat=r.toNat / 16:=by
 unfold s4
 rw [UInt32.toNat_shiftRight]
 show r.toNat >>> 4=_
 rw [Nat.shiftRight_eq_div_pow]
theorem nib_top (r:UInt32):(nib r).toNat / 268435456=(half (a15 r)).toNat / 268435456:=by
 unfold nib xr
 rw [UInt32.toNat_xor]
 have h1:(s4 r).toNat < 2 ^ 28:=by rw [s4_nat];have:=r.toNat_lt;omega
 have e:∀ a b:Nat,a < 2 ^ 28→(a ^^^ b) / 268435456=b / 268435456:=fun a b ha=>by
  rw [show (268435456:Nat)=2 ^ 28 by decide,← Nat.shiftRight_eq_div_pow,← Nat.shiftRight_eq_div_pow,Nat.shiftRight_xor_distrib,Nat.shiftRight_eq_div_pow a,Nat.div_eq_of_lt ha,Nat.zero_xor]
 exact e _ _ h1
theorem nib_inj (r r':UInt32) (h:nib r=nib r'):r=r':=by
 have h1:=(nib_top r).symm.trans ((congrArg (fun x:UInt32=>x.toNat / 268435456) h).trans (nib_top r'))
 have hr:r.toNat % 16 < 16:=Nat.mod_lt _ (by decide)
 have hr':r'.toNat % 16 < 16:=Nat.mod_lt _ (by decide)
 have ea:a15 r=UInt32.ofNat (r.toNat % 16):=by
  apply UInt32.toNat_inj.1
  rw [a15_nat,UInt32.toNat_ofNat']
  omega
 have ea':a15 r'=UInt32.ofNat (r'.toNat % 16):=by
  apply UInt32.toNat_inj.1
  rw [a15_nat,UInt32.toNat_ofNat']
  omega
 rw [ea,ea'] at h1
 have h2:=half_top ⟨_,hr⟩ ⟨_,hr'⟩ h1
 have h3:r.toNat % 16=r'.toNat % 16:=by have:=congrArg Fin.val h2;exact this
 have h4:a15 r=a15 r':=by rw [ea,ea',h3]
 have h5:s4 r=s4 r':=by
  unfold nib at h
  rw [h4] at h
  exact xr_cancel _ _ _ h
 have h6:=congrArg UInt32.toNat h5
 rw [s4_nat,s4_nat] at h6
 exact UInt32.toNat_inj.1 (by omega)
theorem xb_inj (r r':UInt32) (c:UInt8) (h:xb r c=xb r' c):r=r':=xr_cancel r r' c.toUInt32 h
theorem xb_byte (r:UInt32) (c c':UInt8) (h:xb r c=xb r c'):c=c':=by
 have:c.toUInt32=c'.toUInt32:=by
  refine xr_cancel c.toUInt32 c'.toUInt32 r ?_
  unfold xr
  unfold xb at h
  rw [UInt32.xor_comm,h,UInt32.xor_comm]
 have h2:=congrArg UInt32.toNat this
 simp at h2
 exact UInt8.toNat_inj.1 h2
theorem thr_inj (r r':UInt32):∀ l:List UInt8,thr r l=thr r' l→r=r':=by
 intro l
 induction l generalizing r r' with
 | nil=>exact fun h=>h
 | cons c s ih =>
   intro h
   have:=ih (byteStep r c) (byteStep r' c) h
   exact xb_inj r r' c (nib_inj _ _ (nib_inj _ _ this))
theorem crc_flip (a s:List UInt8) (c c':UInt8) (hc:c ≠ c'):crc (a++c :: s) ≠ crc (a++c' :: s):=by
 intro h
 have h1:thr 4294967295 (a++c :: s)=thr 4294967295 (a++c' :: s):=by
  unfold crc nt at h
  have:=congrArg (fun x:UInt32=>~~~ x) h
  simpa using this
 unfold thr at h1
 rw [List.foldl_append,List.foldl_append] at h1
 have h2:=thr_inj _ _ s (show thr (byteStep _ c) s=thr (byteStep _ c') s from h1)
 exact hc (xb_byte _ _ _ (nib_inj _ _ (nib_inj _ _ h2)))
end
end Go.Proofs.YtgkehahklccacaaGreatDoor
