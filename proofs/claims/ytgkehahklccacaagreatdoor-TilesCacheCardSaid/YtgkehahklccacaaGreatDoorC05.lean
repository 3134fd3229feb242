import Derived.Test.YtgkehahklccacaaGreatDoorC04
import Derived.Laws.CopyOwn
import Derived.StillTailTactics
import Derived.Deep.RegionHeld3
import Derived.Test.YtgkehahklccacaaGreatDoorC03
import Derived.IntWalk
import Derived.Deep.MidRow
namespace Go.Proofs.YtgkehahklccacaaGreatDoor
open Go Go.RowKit
open Go.Lib (hid)
set_option maxRecDepth 100000
set_option maxHeartbeats 1000000
set_option linter.unusedVariables false
set_option linter.unusedSimpArgs false
section
open Go.RowKit in
section
variable {P : Program} {w : World} {ops : Array Oper} {rest : List Oper} {o : Oper} {a : Act} {Q : Exit → Act → World → Prop}
theorem W_copyIn {K:Act→World→Prop} (d s:Operand) (t t':TypeId) (ho:o.op=.call { callee:=.builtin .copy,args:=#[d,s],argTypes:=#[t,t'] }) {e:TypeId} {z:Value} {bytes:Nat} (T:Sl P t e z 1 bytes)
 (g off n cap:Nat) (hd:a.eval d=.slice (some ⟨g,off,none⟩) n cap) (cur:List Value) (ty:TypeId) (hg:w.heap[g]?=some (.cells cur.toArray ty (0,0))) (hfit:off+n≤cur.length)
 (sa:Option Addr) (m c:Nat) (l:List UInt8) (hs:a.eval s=.slice sa m c) (hr:R8 w sa m c l)
 (h:∀ w',w'.heap[g]?=some (.cells (splice cur off ((l.take n).map b8)).toArray ty (0,0))→w.grownBy w' (some g)→K (a.put o.dst (goInt (min m n:Nat))) w') :
 o.wp P a w K Q:=by
 obtain ⟨i,hi,hz0,hz1,hz2⟩:=info_parts T.inf
 have hlm:=hr.1
 by_cases h0:min m n=0
 · have hl0:l.take n=[]:=by
    apply List.eq_nil_of_length_eq_zero;simp [hlm];omega
   have hrun:=run_copy_none (P:=P) w t t' o.type e (some ⟨g,off,none⟩) sa n cap m c T.und (by rw [hi];simp [hz1]) h0
   have:=h w (by rw [hl0];simpa [splice] using hg) ⟨rfl,rfl,rfl,Nat.le_refl _,fun _ _ _=>rfl⟩
   rw [h0] at this
   unfold Oper.wp
   simp [execOp,ho,resolve,invoke,builtin,hd,hs,hrun,Result.andThen]
   exact this
 · have hpos:0 < l.length:=by omega
   obtain ⟨b,off',e1,_⟩:=hr.2.2.2 0 hpos
   subst e1
   have hlen:((l.take n).map b8).length=min m n:=by simp [hlm,Nat.min_comm]
   have hr':R8 w (some ⟨b,off',none⟩) (min m n) c (l.take n):=by
    rw [show l.take n=l.take (min m n) by rw [← hlm,Nat.min_comm,← List.take_take,List.take_length]]
    exact hr.take _ (by omega)
   have hrun:=run_copy_row (P:=P) w t t' o.type e g off n cap ⟨b,off',none⟩ m c cur.toArray ty ((l.take n).map b8) T.und (by rw [hi];simp [hz1]) hg hlen (hr'.cells rfl) (by rw [hlen];simp;omega) (b8_one _)
   have:=h _ (setRow_heap w g _ _ ty _ hg) ⟨rfl,rfl,rfl,by simp,fun k _ hk=>setRow_other w g k _ (fun e=>hk (by simp [e]))⟩
   rw [← hlen] at this
   unfold Oper.wp
   simp only [execOp,ho,resolve,invoke,builtin,Sem.run_bind,Sem.run_pure,Result.andThen_ok,List.map_toArray,List.map_cons,List.map_nil,hd,hs,hrun]
   have e2:∀ x:List Value,cur.take off++x++cur.drop (off+x.length)=splice cur off x:=fun x=>by unfold splice;rw [List.append_assoc]
   first
    | exact this
    | (rw [e2];exact this)
    | (simp only [List.toList_toArray,e2];exact this)
theorem L_copyIn (hgd:o.guard=none) (d s:Operand) (t t':TypeId) (ho:o.op=.call { callee:=.builtin .copy,args:=#[d,s],argTypes:=#[t,t'] }) {e:TypeId} {z:Value} {bytes:Nat} (T:Sl P t e z 1 bytes)
 (g off n cap:Nat) (hd:a.eval d=.slice (some ⟨g,off,none⟩) n cap) (cur:List Value) (ty:TypeId) (hg:w.heap[g]?=some (.cells cur.toArray ty (0,0))) (hfit:off+n≤cur.length)
 (sa:Option Addr) (m c:Nat) (l:List UInt8) (hs:a.eval s=.slice sa m c) (hr:R8 w sa m c l)
 (h:∀ w',w'.heap[g]?=some (.cells (splice cur off ((l.take n).map b8)).toArray ty (0,0))→w.grownBy w' (some g)→wpList P ops Q rest (a.put o.dst (goInt (min m n:Nat))) w') :
 wpList P ops Q (o :: rest) a w :=
 wpList_plain hgd fun _ hK=>W_copyIn d s t t' ho T g off n cap hd cur ty hg hfit sa m c l hs hr fun w' h2 h3=>hK _ _ (h w' h2 h3)
theorem S_copyIn {K:Act→World→Prop} {E:Prop} (hgd:o.guard=none) (d s:Operand) (t t':TypeId) (ho:o.op=.call { callee:=.builtin .copy,args:=#[d,s],argTypes:=#[t,t'] }) {e:TypeId} {z:Value} {bytes:Nat} (T:Sl P t e z 1 bytes)
 (g off n cap:Nat) (hd:a.eval d=.slice (some ⟨g,off,none⟩) n cap) (cur:List Value) (ty:TypeId) (hg:w.heap[g]?=some (.cells cur.toArray ty (0,0))) (hfit:off+n≤cur.length)
 (sa:Option Addr) (m c:Nat) (l:List UInt8) (hs:a.eval s=.slice sa m c) (hr:R8 w sa m c l)
 (h:∀ w',w'.heap[g]?=some (.cells (splice cur off ((l.take n).map b8)).toArray ty (0,0))→w.grownBy w' (some g)→K (a.put o.dst (goInt (min m n:Nat))) w') :
 if Region.wanted o (yielded ops a.tmps)=true then Oper.wp P o a w K Q else E:=by
 rw [if_pos (by simp [Region.wanted,hgd])]
 exact W_copyIn d s t t' ho T g off n cap hd cur ty hg hfit sa m c l hs hr h
end
theorem slice_to8 (w:World) (a:Option Addr) (n c k:Nat) (hk:k≤c):(Instr.slice 53 (.slice a n c) none (some (.int .i64 (k:Int))) none).run Tryz.prog w=.ok (.slice a k c) w:=by
 obtain ⟨h1,h2⟩:=sl22.elem w
 rw [run_slice_h w 53 a n c h1 .i64 k (by omega) (by omega),h2]
 have e:a.map (·.add 0)=a:=by cases a with | none=>rfl | some x=>cases x;simp [Addr.add]
 simp [Result.andThen,sliced,e]
def tlH (rs:List UInt8) (n:Nat):List Value:=rs.map b8++[.int .u64 (n:Int)]
def hCells (m rs:List UInt8):Array Value:=stC (stOf m).list (tlH rs m.length)
def HsAt (w:World) (gh:Nat) (m:List UInt8):Prop:=∃ rs:List UInt8,rs.length=64∧rs.take (m.length % 64)=rest m∧w.heap[gh]?=some (.cells (hCells m rs) 332 (0,0))
theorem HsAt.keep {w w':World} {gh:Nat} {m:List UInt8} (h:HsAt w gh m) (hk:w'.heap[gh]?=w.heap[gh]?):HsAt w' gh m:=by
 obtain ⟨rs,h1,h2,h3⟩:=h
 exact ⟨rs,h1,h2,hk.trans h3⟩
theorem HsAt.lt {w:World} {gh:Nat} {m:List UInt8} (h:HsAt w gh m):gh < w.heap.size:=(Array.getElem?_eq_some_iff.1 h.choose_spec.2.2).1
theorem S8.list_len (s:S8):s.list.length=8:=rfl
theorem cell_n {w:World} {gh:Nat} {l:List UInt32} (hl:l.length=8) {rs:List UInt8} (hr:rs.length=64) {n:Nat} {ty:TypeId} (h:w.heap[gh]?=some (.cells (stC l (tlH rs n)) ty (0,0))):w.cell? ⟨gh,72,none⟩=some (.int .u64 (n:Int)):=by
 rw [cell_of_row _ _ _ _ _ _ h]
 unfold stC tlH
 rw [List.getElem?_toArray,List.getElem?_append_right (by rw [List.length_map];omega),List.length_map,hl,List.getElem?_append_right (by rw [List.length_map];omega),List.length_map,hr]
 rfl
theorem set_n {l:List UInt32} (hl:l.length=8) {rs:List UInt8} (hr:rs.length=64) (n k:Nat):(stC l (tlH rs n)).setIfInBounds 72 (.int .u64 (k:Int))=stC l (tlH rs k):=by
 unfold stC tlH
 rw [List.setIfInBounds_toArray,List.set_append_right _ _ (by rw [List.length_map];omega),List.set_append_right _ _ (by rw [List.length_map,List.length_map];omega)]
 simp [hl,hr]
theorem splice_rest {l:List UInt32} (hl:l.length=8) {rs:List UInt8} (hr:rs.length=64) (n q:Nat) (x:List UInt8) (hq:q+x.length≤64):(splice (l.map wv++tlH rs n) (8+q) (x.map b8)).toArray=stC l (tlH (rs.take q++x++rs.drop (q+x.length)) n):=by
 unfold splice tlH stC
 have h8:(l.map wv).length=8:=by rw [List.length_map];exact hl
 rw [List.take_append,List.drop_append,h8,List.take_of_length_le (by omega),List.drop_of_length_le (by omega),List.length_map,show 8+q - 8=q by omega,show 8+q+x.length - 8=q+x.length by omega,List.take_append_of_le_length (by rw [List.length_map];omega),List.drop_append_of_le_length (by rw [List.length_map];omega)]
 simp [List.map_take,List.map_drop]
theorem r8_rest {w:World} {gh:Nat} {l:List UInt32} (hl:l.length=8) {rs:List UInt8} (hr:rs.length=64) {n:Nat} {ty:TypeId} (h:w.heap[gh]?=some (.cells (stC l (tlH rs n)) ty (0,0))):R8 w (some ⟨gh,8,none⟩) 64 64 rs:=by
 refine ⟨hr,Nat.le_refl _,by omega,fun i hi=>⟨gh,8,rfl,?_⟩⟩
 rw [cell_of_row _ _ _ _ _ _ h]
 unfold stC tlH
 rw [List.getElem?_toArray,List.getElem?_append_right (by rw [List.length_map];omega),List.length_map,hl,show 8+i - 8=i by omega,List.getElem?_append_left (by rw [List.length_map];omega),List.getElem?_map,List.getElem?_eq_getElem hi]
 rfl
theorem newh_any (w:World):Calls Tryz.prog 178 #[] w fun e w'=>∃ gh,e=.returned (.pointer (some ⟨gh,0,none⟩))∧w.heap.size≤gh∧HsAt w' gh []∧Below w.heap.size w w':=by
 go_enter Tryz.func178,Tryz.ntmps178
 go_wp2
 go_ret
 have hz:∀ o1 o2,((w.alloc o1).alloc o2).heap[w.heap.size+1]?=some o2:=fun o1 o2=>heap_alloc2_new w o1 o2
 refine ⟨w.heap.size+1,rfl,Nat.le_succ _,⟨List.replicate 64 0,by simp,rfl,(hz _ _).trans ?_⟩,((Below.refl _ _).alloc (Nat.le_refl _) _).alloc (by simp) _⟩
 refine congrArg (fun c=>some (Obj.cells c 332 (0,0))) ?_
 kernel_rfl
theorem wp_two_k {P:Program} {c:Code} {Q:Exit→Act→World→Prop} {a:Act} {w:World} (hc:∃ x y,c=.seq x y) (h:∀ K:Act→World→Prop,(∀ a w,Code.wp P (dropSeq 1 c) Q a w→K a w)→Code.wp P (headSeq c) (Exit.then K Q) a w):Code.wp P c Q a w :=
 wp_two hc (h _ fun _ _ x=>x)
theorem r8_grown {w w':World} {gh:Nat} {a:Option Addr} {n c:Nat} {p:List UInt8} (h:R8 w a n c p) (hap:∀ x,a=some x→0 < n→gh ≠ x.block) (hg:w.grownBy w' (some gh)):R8 w' a n c p:=by
 refine ⟨h.1,h.2.1,h.2.2.1,fun i hi=>?_⟩
 obtain ⟨b,off,e,hc⟩:=h.2.2.2 i hi
 exact ⟨b,off,e,(World.cell?_of_block (a:=⟨b,off+i,none⟩) (hg.block b (World.block_lt_of_cell? w _ hc) (fun e2=>hap _ e (by have:=h.1;omega) (Option.some.inj e2).symm))).trans hc⟩
theorem rt_grown {w w':World} {gh:Nat} (h:RoundTab w) (h3:3 < w.heap.size) (hne:gh ≠ 3) (hg:w.grownBy w' (some gh)):RoundTab w':=fun i hi =>
 (World.cell?_of_block (a:=⟨3,i,none⟩) (hg.block 3 h3 (fun e=>hne (Option.some.inj e).symm))).trans (h i hi)
theorem grown_trans {w w1 w2:World} {g:Nat} (h:w.grownBy w1 (some g)) (k:w1.grownBy w2 (some g)):w.grownBy w2 (some g) :=
 ⟨k.os.trans h.os,k.tape.trans h.tape,k.output.trans h.output,Nat.le_trans h.size k.size,fun i hi hne=>(k.block i (Nat.lt_of_lt_of_le hi h.size) hne).trans (h.block i hi hne)⟩
theorem grown_refl (w:World) (r:Option Nat):w.grownBy w r:=⟨rfl,rfl,rfl,Nat.le_refl _,fun _ _ _=>rfl⟩
theorem dropA_apart {a:Option Addr} {n gh:Nat} (h:∀ x,a=some x→0 < n→gh ≠ x.block) (k c:Nat):∀ x,dropA a k c=some x→0 < n - k→gh ≠ x.block:=by
 intro x e h0
 unfold dropA at e
 split at e
 · exact h x e (by omega)
 · cases a with
   | none=>cases e
   | some y =>
     have hy:=h y rfl (by omega)
     obtain rfl:=Option.some.inj e
     obtain ⟨b',o',f'⟩:=y
     unfold Addr.add
     dsimp only
     split <;> exact hy
end
section
noncomputable def wr0:Code:=Tryz.f179.body.getD .skip
set_option maxHeartbeats 4000000
theorem write_t (w0 W:World) (gh:Nat) (a:Option Addr) (n c:Nat) (m p:List UInt8) (hh:HsAt W gh m) (hm:m.length % 64=0) (hr:R8 W a n c p) (hap:∀ x,a=some x→0 < n→gh ≠ x.block) (hb:m.length+n≤1125899906842624) (ht:RoundTab W) (h3:3 < W.heap.size) (hne:gh ≠ 3) (hg:w0.grownBy W (some gh)) (u2 u3 u4 u5 u6 u7 u8 u9 u10 u11 u12 u13 u14 u15 u16 u17 u18 u19 u20 u21 u22 u23 u24 u25 u26 u27 u28 u29 u30 u31 u32 u33 u34 u35 u36 u37 u38 u39 u40 u41 u42 u43 u44 u45 u46 u47 u48 u49 u50 u51 u52 u53 u54 u55 u56 u57 u58 u59 u60 u61 u62 u63 u64 u65 u66 u67 u68 u69 u70 u71 u72 u73 u74 u75 u76:Value) (PST:Ending→World→Prop)
 (hP:∀ (w':World),HsAt w' gh (m++p)→w0.grownBy w' (some gh)→PST (.returned (.tuple #[])) w') :
 Code.wp Tryz.prog (dropSeq 1 wr0) (bodyPost Tryz.prog Tryz.f179 PST) ⟨#[.pointer (some ⟨gh,0,none⟩),.slice a n c,u2,u3,u4,u5,u6,u7,u8,u9,u10,u11,u12,u13,u14,u15,u16,u17,u18,u19,u20,u21,u22,u23,u24,u25,u26,u27,u28,u29,u30,u31,u32,u33,u34,u35,u36,u37,u38,u39,u40,u41,u42,u43,u44,u45,u46,u47,u48,u49,u50,u51,u52,u53,u54,u55,u56,u57,u58,u59,u60,u61,u62,u63,u64,u65,u66,u67,u68,u69,u70,u71,u72,u73,u74,u75,u76],[]⟩ W:=by
 have HP:=hid hP
 have HT:=hid ht
 have HB:=hid hb
 have HN:=hid hr.1
 clear hP ht hb
 conv=>arg 2;whnf
 go_wp2_with fail
 go_loopw [1] (fun v wr=>∃ (a1:Option Addr) (r c1 j:Nat),r+j=n∧v=.slice a1 r c1∧R8 wr a1 r c1 (p.drop j)∧HsAt wr gh (m++p.take j)∧(m++p.take j).length % 64=0∧(∀ x,a1=some x→0 < r→gh ≠ x.block)∧w0.grownBy wr (some gh)∧W.grownBy wr (some gh)) (fun v _=>match v with | .slice _ n _=>n | _=>0)
 case atStart=>exact ⟨a,n,c,0,rfl,rfl,hr,by simpa using hh,by simpa using hm,hap,hg,grown_refl _ _⟩
 case round =>
  clear hh hm hr hap hg
  obtain ⟨a1,r,c1,j,hrj,rfl,hr,hh,hm,hap,hg,hg1⟩:=hrel
  have HR:=hid hr
  have HAP:=hid hap
  have HG:=hid hg
  have HG1:=hid hg1
  have HM:=hid hm
  have HRJ:=hid hrj
  have hML:(m++p.take j).length+r=m.length+n:=by
   rw [List.length_append,List.length_take,HN.out];omega
  have HX:=hid (show p.drop j++[]=p.drop j by simp)
  obtain ⟨M,hMM⟩:∃ M,M=m++p.take j:=⟨_,rfl⟩
  obtain ⟨q,hq⟩:∃ q,q=p.drop j:=⟨_,rfl⟩
  rw [← hMM] at hh hML HM
  rw [← hq] at HR
  have HMM:=hid hMM
  have HQ:=hid hq
  obtain ⟨rs,h64,hrs,hbk⟩:=hh
  obtain ⟨N,hN⟩:∃ N,N=M.length:=⟨_,rfl⟩
  have HNN:=hid hN
  have hNb:N+r≤1125899906842624:=by have:=HB.out;omega
  unfold hCells at hbk
  rw [← hN] at hbk
  have HBK:=hid hbk
  have H64:=hid h64
  have hlt3:3 < wr.heap.size:=Nat.lt_of_lt_of_le h3 hg1.size
  have HC1:=hid hr.2.1
  have hrc:r≤c1:=hr.2.1
  clear hr hap hg hg1 hm hrj hMM hq hrs hN hML h64 hbk
  by_cases h:64≤r
  · have hto:∀ wx,(Instr.slice 53 (.slice a1 r c1) none (some (.int .i64 64)) none).run Tryz.prog wx=.ok (.slice a1 64 c1) wx:=fun wx=>slice_to8 wx a1 r c1 64 (by omega)
    have hfr:∀ wx,(Instr.slice 53 (.slice a1 r c1) (some (.int .i64 64)) none none).run Tryz.prog wx=.ok (.slice (dropA a1 64 c1) (r - 64) (c1 - 64)) wx:=fun wx=>slice_from (P:=Tryz.prog) sl22 wx a1 r c1 64 64 rfl h
    have HH:=hid h
    have h9:decide ((64:Int)≤(r:Int))=true:=by simp;omega
    have HNB:=hid hNb
    clear h hNb hrc
    go_upto_region 9 with (fail)
    clear h9
    go_still_tail 5,(by kernel_rfl)
    change wpList _ _ _ _ _ wr.drew
    have HBK2:=hid (show wr.drew.heap[gh]?=_ from HBK.out)
    have HR2:=hid (show R8 wr.drew a1 r c1 q from HR.out)
    have HT2:=hid (show RoundTab wr.drew from (show RoundTab wr from rt_grown HT.out h3 hne HG1.out))
    have HTK:=hid (take_any wr.drew gh (stOf M) (tlH rs N) 332 HBK2.out a1 c1 (q.take 64) (HR2.out.take 64 HH.out) HT2.out hlt3)
    go_wp2_with fail
    refine HTK.out.mono ?_
    rintro e w4 ⟨rfl,hb4,hg4⟩
    have HG4:=hid (show wr.grownBy w4 (some gh) from ⟨hg4.os,hg4.tape,hg4.output,hg4.size,hg4.block⟩)
    have HB4:=hid hb4
    have hcn:=cell_n (S8.list_len _) H64.out hb4
    have hfn:=frozen_of_row w4 gh 72 _ _ hb4
    have hw:IntKind.u64.wrap ((N:Int)+64)=((N+64:Nat):Int):=by
     have:=HNB.out
     simp [IntKind.wrap,IntKind.bits,IntKind.signed];omega
    clear hb4 hg4 HTK HR2 HT2 HBK2
    go_wp2_with fail
    have hs5:=heap_setCell_same w4 gh 72 _ _ (.int .u64 ((N+64:Nat):Int)) HB4.out
    rw [set_n (S8.list_len _) H64.out] at hs5
    obtain ⟨e1,e2⟩:=more_block M (q.take 64) HM.out (by rw [List.length_take,HR.out.1];have:=HH.out;omega)
    have hM2:M++q.take 64=m++p.take (j+64):=by rw [HMM.out,HQ.out,List.take_add,List.append_assoc]
    have hN2:(M++q.take 64).length=N+64:=by rw [List.length_append,← HNN.out,List.length_take,HR.out.1];have:=HH.out;omega
    have HS5:=hid (show HsAt (w4.setCell ⟨gh,72,none⟩ (.int .u64 ((N+64:Nat):Int))) gh (m++p.take (j+64)) by
     rw [← hM2]
     refine ⟨rs,H64.out,?_,?_⟩
     · rw [e2,hN2]
       have h5:(N+64) % 64=0:=by have:=HM.out;rw [← HNN.out] at this;omega
       rw [h5];rfl
     · unfold hCells
       rw [e1,hN2]
       exact hs5)
    have HM5:=hid (show (m++p.take (j+64)).length % 64=0 by rw [← hM2,hN2];have:=HM.out;rw [← HNN.out] at this;omega)
    have HG5:=hid (grown_trans HG4.out (grown_set (grown_refl w4 (some gh)) 0 72 (.int .u64 ((N+64:Nat):Int))))
    have HR5:=hid (r8_grown (HR.out.dropA 64 HH.out) (dropA_apart HAP.out 64 c1) HG5.out)
    rw [HQ.out,List.drop_drop] at HR5
    clear hs5 e1 e2 hM2 hN2 hto hfr
    go_roundw
    case rel=>exact ⟨dropA a1 64 c1,r - 64,c1 - 64,j+64,by have:=HH.out;have:=HRJ.out;omega,rfl,HR5.out,HS5.out,HM5.out,dropA_apart HAP.out 64 c1,grown_trans HG.out HG5.out,grown_trans HG1.out HG5.out⟩
    case measure=>have:=HH.out;show r - 64 < r;omega
  · have HH:=hid h
    have h9:decide ((64:Int)≤(r:Int))=false:=by simp;omega
    have HNB:=hid hNb
    clear h hNb hrc
    go_upto_region 11 with (fail)
    clear h9
    have hcn:wr.drew.cell? ⟨gh,72,none⟩=some (.int .u64 (N:Int)):=cell_n (S8.list_len _) H64.out HBK.out
    have HBK2:=hid (show wr.drew.heap[gh]?=some (.cells ((stOf M).list.map wv++tlH rs N).toArray 332 (0,0)) from HBK.out)
    have HR2:=hid (show R8 wr.drew a1 r c1 q from HR.out)
    have hsp:=splice_rest (S8.list_len (stOf M)) H64.out N 0 (q.take 64) (by rw [List.length_take];omega)
    have HQL:=hid (show q.length=r∧q.take 64=q from ⟨HR.out.1,List.take_of_length_le (by rw [HR.out.1];have:=HH.out;omega)⟩)
    have HLEN:=hid (show 8+64≤((stOf M).list.map wv++tlH rs N).length by rw [List.length_append,List.length_map,S8.list_len,tlH,List.length_append,List.length_map,H64.out];simp)
    obtain ⟨rs4,hrs4⟩:∃ rs4,rs4=rs.take 0++q.take 64++rs.drop (0+(q.take 64).length):=⟨_,rfl⟩
    rw [← hrs4] at hsp
    have HRS4:=hid hrs4
    have HSP:=hid hsp
    have HS64:=hid (show rs4.length=64 by rw [hrs4,HQL.out.2,List.length_append,List.length_append,List.length_take,List.length_drop,H64.out,HQL.out.1];have:=HH.out;omega)
    have hmin:min r 64=r:=by have:=HH.out;omega
    have hw:IntKind.u64.wrap ((N:Int)+(r:Int))=((N+r:Nat):Int):=by
     have:=HNB.out
     simp [IntKind.wrap,IntKind.bits,IntKind.signed];omega
    have hw2:IntKind.u64.wrap (r:Int)=(r:Int):=by
     have:=HNB.out
     simp [IntKind.wrap,IntKind.bits,IntKind.signed];omega
    clear hsp hrs4
    refine wp_region_held_drew (S:=fun _=>True) (by kernel_rfl) trivial (fun hHeld=>?_)
    apply wpT 0
    apply wpT 1
    apply wpT 2
    apply wpT 4
    apply wpT 5
    apply wpT 6
    apply wpT 7
    apply wpT 8
    refine wpAnyH_ready (rs:=[3,9]) (by kernel_rfl) (by simp) ?_
    refine AllReadyH.cons (o:=_) rfl (fun K hK=>?_) (AllReadyH.cons (o:=_) rfl (fun K hK=>?_) AllReadyH.nil)
    · go_simp
      apply bk hK
      · exact trivial
      intro hHeld
      clear hK K
      apply wpR 9
      intro K hK
      refine S_copyIn rfl (.tmp 70) (.tmp 71) 53 53 (by rfl) sl22 gh 8 64 64 (by rfl) ((stOf M).list.map wv++tlH rs N) 332 HBK2.out HLEN.out a1 r c1 q (by rfl) HR2.out (fun w4 hb4 hg4=>?_)
      rw [HSP.out] at hb4
      have HB4:=hid hb4
      have HG4:=hid (show wr.grownBy w4 (some gh) from ⟨hg4.os,hg4.tape,hg4.output,hg4.size,hg4.block⟩)
      have hn4:=cell_n (S8.list_len _) HS64.out hb4
      have hf4:=frozen_of_row w4 gh 72 _ _ hb4
      clear hb4 hg4 hcn
      apply bk hK
      · exact trivial
      intro hHeld
      clear hK K
      apply wpT 10
      apply wpT 11
      apply wpT 12
      apply wpT 13
      apply wpR 14
      intro K hK
      go_simp
      apply bk hK
      · exact trivial
      intro hHeld
      clear hK K
      refine wpAnyH_done (by kernel_rfl) ?_ _
      have hs5:=heap_setCell_same w4 gh 72 _ _ (.int .u64 ((N+r:Nat):Int)) HB4.out
      rw [set_n (S8.list_len _) HS64.out] at hs5
      obtain ⟨e1,e2⟩:=more_short M q (by rw [HQL.out.1];have:=HM.out;have:=HH.out;omega)
      have hM2:M++q=m++p:=by rw [HMM.out,HQ.out,List.append_assoc,List.take_append_drop]
      have hN2:(M++q).length=N+r:=by rw [List.length_append,← HNN.out,HQL.out.1]
      have HS5:=hid (show HsAt (w4.setCell ⟨gh,72,none⟩ (.int .u64 ((N+r:Nat):Int))) gh (m++p) by
       rw [← hM2]
       refine ⟨rs4,HS64.out,?_,?_⟩
       · have h5:(N+r) % 64=r:=by have:=HM.out;rw [← HNN.out] at this;have:=HH.out;omega
         have h6:rest M=[]:=List.eq_nil_of_length_eq_zero (by rw [rest_len];exact HM.out)
         rw [e2,h6,hN2,h5,HRS4.out,HQL.out.2,List.take_zero,List.nil_append,List.take_append_of_le_length (by rw [HQL.out.1];omega),List.take_of_length_le (by rw [HQL.out.1];omega)]
       · unfold hCells
         rw [e1,hN2]
         exact hs5)
      have HG5:=hid (grown_trans HG4.out (grown_set (grown_refl w4 (some gh)) 0 72 (.int .u64 ((N+r:Nat):Int))))
      clear hs5 e1 e2 hM2 hN2
      go_end0
      exact HP.out _ HS5.out (grown_trans HG.out HG5.out)
    · refine S_copyIn rfl (.tmp 70) (.tmp 71) 53 53 (by rfl) sl22 gh 8 64 64 (by rfl) ((stOf M).list.map wv++tlH rs N) 332 HBK2.out HLEN.out a1 r c1 q (by rfl) HR2.out (fun w4 hb4 hg4=>?_)
      rw [HSP.out] at hb4
      have HB4:=hid hb4
      have HG4:=hid (show wr.grownBy w4 (some gh) from ⟨hg4.os,hg4.tape,hg4.output,hg4.size,hg4.block⟩)
      have hn4:=cell_n (S8.list_len _) HS64.out hb4
      have hf4:=frozen_of_row w4 gh 72 _ _ hb4
      clear hb4 hg4 hcn
      apply bk hK
      · exact trivial
      intro hHeld
      clear hK K
      apply wpT 10
      apply wpR 3
      intro K hK
      go_simp
      apply bk hK
      · exact trivial
      intro hHeld
      clear hK K
      apply wpT 11
      apply wpT 12
      apply wpT 13
      apply wpR 14
      intro K hK
      go_simp
      apply bk hK
      · exact trivial
      intro hHeld
      clear hK K
      refine wpAnyH_done (by kernel_rfl) ?_ _
      have hs5:=heap_setCell_same w4 gh 72 _ _ (.int .u64 ((N+r:Nat):Int)) HB4.out
      rw [set_n (S8.list_len _) HS64.out] at hs5
      obtain ⟨e1,e2⟩:=more_short M q (by rw [HQL.out.1];have:=HM.out;have:=HH.out;omega)
      have hM2:M++q=m++p:=by rw [HMM.out,HQ.out,List.append_assoc,List.take_append_drop]
      have hN2:(M++q).length=N+r:=by rw [List.length_append,← HNN.out,HQL.out.1]
      have HS5:=hid (show HsAt (w4.setCell ⟨gh,72,none⟩ (.int .u64 ((N+r:Nat):Int))) gh (m++p) by
       rw [← hM2]
       refine ⟨rs4,HS64.out,?_,?_⟩
       · have h5:(N+r) % 64=r:=by have:=HM.out;rw [← HNN.out] at this;have:=HH.out;omega
         have h6:rest M=[]:=List.eq_nil_of_length_eq_zero (by rw [rest_len];exact HM.out)
         rw [e2,h6,hN2,h5,HRS4.out,HQL.out.2,List.take_zero,List.nil_append,List.take_append_of_le_length (by rw [HQL.out.1];omega),List.take_of_length_le (by rw [HQL.out.1];omega)]
       · unfold hCells
         rw [e1,hN2]
         exact hs5)
      have HG5:=hid (grown_trans HG4.out (grown_set (grown_refl w4 (some gh)) 0 72 (.int .u64 ((N+r:Nat):Int))))
      clear hs5 e1 e2 hM2 hN2
      go_end0
      exact HP.out _ HS5.out (grown_trans HG.out HG5.out)
theorem slice_rest (wx:World) (gh q:Nat) (hq:q < 64):(Instr.sliceAt 330 (.pointer (some ⟨gh,8,none⟩)) (some (.int .i64 (q:Int))) none none).run Tryz.prog wx=.ok (.slice (some ⟨gh,8+q,none⟩) (64 - q) (64 - q)) wx:=by
 have ht:Tryz.prog.underlying 330=some (.array (Tryz.prog.arrayLen 330) (Tryz.prog.elem 330)):=by kernel_rfl
 have hl:Tryz.prog.arrayLen 330=64:=by kernel_rfl
 have hs:(sizeOf (Tryz.prog.elem 330)).run Tryz.prog wx=.ok 1 wx:=by kernel_rfl
 rw [run_sliceAt_array_l wx 330 ⟨gh,8,none⟩ ht .i64 (q:Int) (by omega) (by rw [hl];omega),hs,hl]
 simp only [Result.andThen,slicedAt,Int.toNat_natCast,Nat.mul_one]
 rw [if_neg (by omega),Addr.add_lit]
theorem write_any (w:World) (gh:Nat) (a:Option Addr) (n c:Nat) (m p:List UInt8) (hh:HsAt w gh m) (hr:R8 w a n c p) (hap:∀ x,a=some x→0 < n→gh ≠ x.block) (hb:m.length+n≤1125899906842624) (ht:RoundTab w) (h3:3 < w.heap.size) (hne:gh ≠ 3) :
 Calls Tryz.prog 179 #[.pointer (some ⟨gh,0,none⟩),.slice a n c] w fun e w'=>e=.returned (.tuple #[])∧HsAt w' gh (m++p)∧w.grownBy w' (some gh):=by
 by_cases h0:m.length % 64=0
 · have HX:=hid (fun us=>write_t w w gh a n c m p hh h0 hr hap hb ht h3 hne (grown_refl _ _) us)
   obtain ⟨rs,h64,hrs,hbk⟩:=hh
   obtain ⟨N,hN⟩:∃ N,N=m.length:=⟨_,rfl⟩
   unfold hCells at hbk
   rw [← hN] at hbk h0
   have hcn:=cell_n (S8.list_len _) h64 hbk
   have hmod2:((N:Nat):Int) % 64=0:=by omega
   have HMOD:=hid h0
   have HNQ:=hid hN
   have HBKQ:=hid hbk
   clear hN h0 hbk
   have HXX:=hid (And.intro hap (And.intro hb (And.intro ht hr)))
   clear hap hb ht hr
   go_enter Tryz.func179,Tryz.ntmps179
   refine wp_two_k (c:=wr0) ⟨_,_,rfl⟩ fun K hK=>?_
   have HK:=hid hK
   clear hK
   conv=>arg 2;whnf
   go_wp2_with fail
   refine HK.out _ _ (write_t w w gh a n c m p ⟨rs,h64,?_,?_⟩ ?_ HXX.out.2.2.2 HXX.out.1 HXX.out.2.1 HXX.out.2.2.1 h3 hne (grown_refl _ _) _ _ _ _ _ _ _ _ _ _ _ _ _ _ _ _ _ _ _ _ _ _ _ _ _ _ _ _ _ _ _ _ _ _ _ _ _ _ _ _ _ _ _ _ _ _ _ _ _ _ _ _ _ _ _ _ _ _ _ _ _ _ _ _ _ _ _ _ _ _ _ _ _ _ _  _ (fun w' h1 h2=>⟨rfl,h1,h2⟩))
   · rw [← HNQ.out,HMOD.out];rw [← HNQ.out,HMOD.out] at hrs;exact hrs
   · unfold hCells;rw [← HNQ.out];exact HBKQ.out
   · rw [← HNQ.out];exact HMOD.out
 · obtain ⟨rs,h64,hrs,hbk⟩:=hh
   obtain ⟨N,hN⟩:∃ N,N=m.length:=⟨_,rfl⟩
   obtain ⟨q,hq⟩:∃ q,q=N % 64:=⟨_,rfl⟩
   unfold hCells at hbk
   rw [← hN] at hbk h0 hrs hb
   rw [← hq] at h0 hrs
   have hq64:q < 64:=by omega
   have hcn:=cell_n (S8.list_len _) h64 hbk
   have hmod2:((N:Nat):Int) % 64=(q:Int):=by omega
   have HQ:=hid hq
   have HN:=hid hN
   have HR:=hid hr
   have HBK:=hid hbk
   have H64:=hid h64
   have HRS:=hid hrs
   have h9:decide ((0:Int) < (q:Int))=true:=by simp;omega
   have HXX:=hid (And.intro hap (And.intro hb ht))
   clear hap hb ht hr hq hN hbk h64 hrs
   go_enter Tryz.func179,Tryz.ntmps179
   refine wp_two_k (c:=wr0) ⟨_,_,rfl⟩ fun K hK=>?_
   have HK:=hid hK
   clear hK
   conv=>arg 2;whnf
   have hsl:=fun wx=>slice_rest wx gh q hq64
   have HL2:=hid (show 8+q+(64 - q)≤((stOf m).list.map wv++tlH rs N).length by rw [List.length_append,List.length_map,S8.list_len,tlH,List.length_append,List.length_map,H64.out];simp;omega)
   have HBK1:=hid (show w.heap[gh]?=some (.cells ((stOf m).list.map wv++tlH rs N).toArray 332 (0,0)) from HBK.out)
   have HSP:=hid (splice_rest (S8.list_len (stOf m)) H64.out N q (p.take (64 - q)) (by rw [List.length_take];omega))
   have hPL:p.length=n:=HR.out.1
   have HPL:=hid hPL
   obtain ⟨rs4,hrs4⟩:∃ rs4,rs4=rs.take q++p.take (64 - q)++rs.drop (q+(p.take (64 - q)).length):=⟨_,rfl⟩
   rw [← hrs4] at HSP
   have HS64:=hid (show rs4.length=64 by rw [hrs4,List.length_append,List.length_append,List.length_take,List.length_drop,List.length_take,H64.out,hPL];omega)
   have HRS4:=hid hrs4
   obtain ⟨k,hk⟩:∃ k,k=min n (64 - q):=⟨_,rfl⟩
   have HKK:=hid hk
   have hNb:N+n≤1125899906842624:=HXX.out.2.1
   have hw:IntKind.u64.wrap ((N:Int)+(k:Int))=((N+k:Nat):Int):=by
    simp [IntKind.wrap,IntKind.bits,IntKind.signed];omega
   have hw2:IntKind.u64.wrap (k:Int)=(k:Int):=by
    simp [IntKind.wrap,IntKind.bits,IntKind.signed];omega
   have hfr:∀ wx,(Instr.slice 53 (.slice a n c) (some (.int .i64 (k:Int))) none none).run Tryz.prog wx=.ok (.slice (dropA a k c) (n - k) (c - k)) wx:=fun wx=>slice_from (P:=Tryz.prog) sl22 wx a n c k k rfl (by omega)
   have hqk:q+k≤64:=by omega
   have HNB:=hid hNb
   have HHK:=hid hk
   clear hrs4 hPL hk hNb
   by_cases hlt:q+n < 64
   · have h10:decide ((q:Int)+(k:Int) < 64)=true:=by simp;have:=HHK.out;omega
     have HLT:=hid hlt
     clear hlt
     go_wp2_with (refine L_copyIn rfl (.tmp 18) (.tmp 19) 53 53 (by rfl) sl22 gh (8+q) (64 - q) (64 - q) (by rfl) ((stOf m).list.map wv++tlH rs N) 332 HBK1.out HL2.out a n c p (by rfl) HR.out (fun w4 hb4 hg4=>?_)
                  rw [HSP.out] at hb4
                  rw [← HKK.out]
                  have HB4:=hid hb4
                  have HG4:=hid hg4
                  have hn4:=cell_n (S8.list_len _) HS64.out hb4
                  have hf4:=frozen_of_row w4 gh 72 _ _ hb4
                  clear hb4 hg4 hsl hcn)
     refine bodyPost_ret (v:=.tuple #[]) (by simp [results,Tryz.results179,go_sem]) rfl ?_
     have hpt:p.take (64 - q)=p:=List.take_of_length_le (by rw [HPL.out];have:=HLT.out;omega)
     have hkn:k=n:=by have:=HHK.out;have:=HLT.out;omega
     have hs5:=heap_setCell_same w4 gh 72 _ _ (.int .u64 ((N+k:Nat):Int)) HB4.out
     rw [set_n (S8.list_len _) HS64.out] at hs5
     obtain ⟨e1,e2⟩:=more_short m p (by rw [← HN.out,HPL.out,← HQ.out];exact HLT.out)
     have hN2:(m++p).length=N+k:=by rw [List.length_append,← HN.out,HPL.out,hkn]
     refine ⟨rfl,⟨rs4,HS64.out,?_,?_⟩,grown_trans HG4.out (grown_set (grown_refl w4 (some gh)) 0 72 (.int .u64 ((N+k:Nat):Int)))⟩
     · have h5:(N+k) % 64=q+n:=by have:=HQ.out;have:=HLT.out;omega
       rw [e2,hN2,h5,HRS4.out,hpt,← HRS.out,List.take_append_of_le_length (by rw [List.length_append,List.length_take,H64.out,HPL.out];omega),List.take_of_length_le (by rw [List.length_append,List.length_take,H64.out,HPL.out];omega)]
     · unfold hCells
       rw [e1,hN2]
       exact hs5
   · have h10:decide ((q:Int)+(k:Int) < 64)=false:=by simp;have:=HHK.out;omega
     have HLT:=hid hlt
     clear hlt
     go_wp2_with (refine L_copyIn rfl (.tmp 18) (.tmp 19) 53 53 (by rfl) sl22 gh (8+q) (64 - q) (64 - q) (by rfl) ((stOf m).list.map wv++tlH rs N) 332 HBK1.out HL2.out a n c p (by rfl) HR.out (fun w4 hb4 hg4=>?_)
                  rw [HSP.out] at hb4
                  rw [← HKK.out]
                  have HB4:=hid hb4
                  have HG4:=hid hg4
                  have hn4:=cell_n (S8.list_len _) HS64.out hb4
                  have hf4:=frozen_of_row w4 gh 72 _ _ hb4
                  clear hb4 hg4 hsl hcn)
     have HCNG:=hid (hfr)
     clear hfr hn4 hf4 hw hw2 h10 hqk hmod2 h9
     obtain ⟨w5,hw5⟩:∃ w5,w5=w4.setCell ⟨gh,72,none⟩ (.int .u64 ((N+k:Nat):Int)):=⟨_,rfl⟩
     have hs5:=heap_setCell_same w4 gh 72 _ _ (.int .u64 ((N+k:Nat):Int)) HB4.out
     rw [set_n (S8.list_len _) HS64.out,← hw5] at hs5
     have HG5:=hid (show w.grownBy w5 (some gh) by rw [hw5];exact grown_trans HG4.out (grown_set (grown_refl w4 (some gh)) 0 72 (.int .u64 ((N+k:Nat):Int))))
     rw [show ((N:Int)+(k:Int))=((N+k:Nat):Int) from by push_cast;rfl,← hw5]
     have HS5:=hid hs5
     clear hw5 hs5
     have hkn:k=64 - q:=by have:=HHK.out;have:=HLT.out;omega
     have HKN:=hid hkn
     clear hkn
     go_still_tail 7,(by kernel_rfl)
     change wpList _ _ _ _ _ w5.drew
     have HTK:=hid (take_any w5.drew gh (stOf m) (tlH rs4 (N+k)) 332 HS5.out (some ⟨gh,8,none⟩) 64 rs4 (r8_rest (S8.list_len _) HS64.out HS5.out) (show RoundTab w5 from rt_grown HXX.out.2.2 h3 hne HG5.out) (Nat.lt_of_lt_of_le h3 HG5.out.size))
     go_wp2_with fail
     refine HTK.out.mono ?_
     rintro e w6 ⟨rfl,hb6,hg6⟩
     have HB6:=hid hb6
     have HG6:=hid (show w5.grownBy w6 (some gh) from ⟨hg6.os,hg6.tape,hg6.output,hg6.size,hg6.block⟩)
     clear hb6 hg6 HTK
     go_wp2_with fail
     have hGG:=grown_trans HG5.out HG6.out
     have hpk:(p.take (64 - q)).length=64 - q:=by rw [List.length_take,HPL.out];have:=HLT.out;omega
     have hr4:rs4=rest m++p.take k:=by
      rw [HRS4.out,hpk,HRS.out,HKN.out,List.drop_of_length_le (by rw [H64.out];omega),List.append_nil]
     have hml:m.length % 64+(p.take k).length=64:=by rw [HKN.out,hpk,← HN.out,← HQ.out];omega
     obtain ⟨e1,e2⟩:=more_fill m (p.take k) hml
     have hN2:(m++p.take k).length=N+k:=by rw [List.length_append,← HN.out,HKN.out,hpk]
     have h65:(N+k) % 64=0:=by have:=HKN.out;have:=HQ.out;omega
     refine HK.out _ _ (write_t w w6 gh (dropA a k c) (n - k) (c - k) (m++p.take k) (p.drop k) ⟨rs4,HS64.out,?_,?_⟩ (by rw [hN2];exact h65) (r8_grown (HR.out.dropA k (by have:=HHK.out;omega)) (dropA_apart HXX.out.1 k c) hGG) (dropA_apart HXX.out.1 k c) (by rw [hN2];have:=HNB.out;have:=HHK.out;omega) (rt_grown HXX.out.2.2 h3 hne hGG) (Nat.lt_of_lt_of_le h3 hGG.size) hne hGG _ _ _ _ _ _ _ _ _ _ _ _ _ _ _ _ _ _ _ _ _ _ _ _ _ _ _ _ _ _ _ _ _ _ _ _ _ _ _ _ _ _ _ _ _ _ _ _ _ _ _ _ _ _ _ _ _ _ _ _ _ _ _ _ _ _ _ _ _ _ _ _ _ _ _  _ (fun w' h1 h2=>⟨rfl,(by rw [List.append_assoc,List.take_append_drop] at h1;exact h1),h2⟩))
     · rw [hN2,h65,e2];rfl
     · unfold hCells
       rw [e1,hN2,← hr4]
       exact HB6.out
end
section
def fillA (l:List UInt8) (t N:Nat):Array Value:=((l.take t++List.replicate (N - t) 0).map b8).toArray
theorem fillA_size (l:List UInt8) (t N:Nat) (h:t≤l.length) (hN:t≤N):(fillA l t N).size=N:=by
 simp [fillA];omega
theorem fillA_set (l:List UInt8) (t N:Nat) (c:UInt8) (h:l[t]?=some c) (hN:t < N):(fillA l t N).setIfInBounds t (b8 c)=fillA l (t+1) N:=by
 have hl:=(List.getElem?_eq_some_iff.1 h).1
 have e1:l.take (t+1)=l.take t++[c]:=by rw [List.take_add_one,h];rfl
 have e2:List.replicate (N - t) (0:UInt8)=0 :: List.replicate (N - (t+1)) 0:=by
  rw [show N - t=(N - (t+1))+1 by omega,List.replicate_succ]
 unfold fillA
 rw [e1,e2,List.setIfInBounds_toArray,List.map_append,List.set_append_right _ _ (by simp;omega),List.map_cons]
 simp [hl,Nat.min_eq_left (Nat.le_of_lt hl)]
theorem fillA_full (l:List UInt8) (N:Nat) (h:l.length=N):fillA l N N=(l.map b8).toArray:=by
 unfold fillA
 rw [List.take_of_length_le (by omega),Nat.sub_self,List.replicate_zero,List.append_nil]
def dgA (d:List UInt8):Array Value:=(d.map b8).toArray
theorem dgA_size (d:List UInt8):(dgA d).size=d.length:=by simp [dgA]
theorem dgA_all (d:List UInt8):(dgA d).all (·.oneCell')=true:=all_oneCell_toArray (b8_one d)
theorem setCells_whole (g:Nat):∀ (vs pre post:List Value) (w:World) (ty:TypeId),w.heap[g]?=some (.cells (pre++post).toArray ty (0,0))→vs.length≤post.length→(w.setCells g pre.length vs).heap[g]?=some (.cells (pre++vs++post.drop vs.length).toArray ty (0,0)):=by
 intro vs
 induction vs with
 | nil=>intro pre post w ty h _;simpa [World.setCells] using h
 | cons v vs ih =>
   intro pre post w ty h hl
   cases post with
   | nil=>simp at hl
   | cons p post =>
     have h1:=heap_setCell_same w g pre.length _ _ v h
     rw [List.setIfInBounds_toArray,List.set_append_right _ _ (Nat.le_refl _),Nat.sub_self,List.set_cons_zero] at h1
     have:=ih (pre++[v]) post (w.setCell ⟨g,pre.length,none⟩ v) ty (by rw [h1];simp) (by simpa using hl)
     rw [List.length_append] at this
     simpa [World.setCells] using this
theorem setCells_all {w:World} {g:Nat} {C:Array Value} {ty:TypeId} (h:w.heap[g]?=some (.cells C ty (0,0))) (vs:List Value) (hl:vs.length=C.size):(w.setCells g 0 vs).heap[g]?=some (.cells vs.toArray ty (0,0)):=by
 have:=setCells_whole g vs [] C.toList w ty (by simpa using h) (by simp [hl])
 rw [List.length_nil] at this
 rw [this]
 simp [hl]
theorem setCells_grown (g:Nat):∀ (vs:List Value) (o:Nat) (w:World),w.grownBy (w.setCells g o vs) (some g):=by
 intro vs
 induction vs with
 | nil=>intro o w;exact grown_refl _ _
 | cons v vs ih=>intro o w;exact grown_trans (grown_set (grown_refl w (some g)) 0 o v) (ih (o+1) _)
theorem setCells_size (g:Nat):∀ (vs:List Value) (o:Nat) (w:World),(w.setCells g o vs).heap.size=w.heap.size:=by
 intro vs
 induction vs with
 | nil=>intro o w;rfl
 | cons v vs ih=>intro o w;exact (ih (o+1) _).trans (by simp)
theorem there_block {w:World} {g:Nat} {C:Array Value} {ty:TypeId} (h:w.heap[g]?=some (.cells C ty (0,0))):w.there g 0 C.size:=fun j hj=>by
 rw [cell_of_row _ _ _ _ _ _ h,Nat.zero_add,Array.getElem?_eq_getElem hj]
 exact ⟨rfl,frozen_of_row w g j _ _ h⟩
theorem hCells_size (m rs:List UInt8) (h:rs.length=64):(hCells m rs).size=73:=by
 simp [hCells,stC,S8.list_len,tlH,h]
theorem hCells_one (m rs:List UInt8):(hCells m rs).all (·.oneCell')=true:=by
 unfold hCells stC tlH
 refine all_oneCell_toArray fun v hv=>?_
 rcases List.mem_append.1 hv with h | h
 · obtain ⟨x,-,rfl⟩:=List.mem_map.1 h;rfl
 · rcases List.mem_append.1 h with h | h
   · exact b8_one _ _ h
   · rw [List.mem_singleton.1 h];rfl
theorem padL_at (n i:Nat) (h:i < 8):(padL n)[gapK n+i]?=some (UInt8.ofNat (8 * n / 2 ^ (56 - 8 * i))):=by
 have hg:=gapK_le n
 unfold padL
 rw [show gapK n+i=(gapK n - 1+i)+1 by omega,List.cons_append,List.getElem?_cons_succ,List.getElem?_append_right (by simp),List.length_replicate,show gapK n - 1+i - (gapK n - 1)=i by omega]
 unfold be
 rw [List.getElem?_map,List.getElem?_range h]
 show some (UInt8.ofNat (8 * n / 2 ^ (8 * (8 - 1 - i))))=_
 rw [show 8 * (8 - 1 - i)=56 - 8 * i by omega]
theorem padL_start (n:Nat):fillA [128] 1 128=fillA (padL n) (gapK n) 128:=by
 have hg:=gapK_le n
 unfold fillA
 have e:(padL n).take (gapK n)=128 :: List.replicate (gapK n - 1) 0:=by
  unfold padL
  rw [List.cons_append,show gapK n=(gapK n - 1)+1 by omega,List.take_succ_cons,Nat.add_sub_cancel,List.take_append_of_le_length (by simp),List.take_of_length_le (by simp)]
 rw [e]
 show ((((128:UInt8) :: List.replicate 127 0)).map b8).toArray=_
 rw [List.cons_append,List.replicate_append_replicate,show gapK n - 1+(128 - gapK n)=127 by omega]
theorem bytes_at (s:S8) (i j:Nat) (hi:i < 8) (hj:j < 4):s.bytes[4 * i+j]?=some (UInt8.ofNat ((s.list.getD i 0).toNat / 2 ^ (24 - 8 * j))):=by
 unfold S8.bytes
 have hb:∀ x:UInt32,(be 4 x.toNat)[j]?=some (UInt8.ofNat (x.toNat / 2 ^ (24 - 8 * j))):=fun x=>by
  unfold be
  rw [List.getElem?_map,List.getElem?_range hj]
  show some (UInt8.ofNat (x.toNat / 2 ^ (8 * (4 - 1 - j))))=_
  rw [show 8 * (4 - 1 - j)=24 - 8 * j by omega]
 obtain ⟨x,hx⟩:∃ x,s.list[i]?=some x:=⟨_,List.getElem?_eq_getElem (by rw [S8.list_len];exact hi)⟩
 have:=flat_get (fun x:UInt32=>(be 4 x.toNat).map b8) 4 (fun x=>by simp [be_len]) s.list i x hx j (b8 (UInt8.ofNat (x.toNat / 2 ^ (24 - 8 * j)))) (by rw [List.getElem?_map,hb];rfl)
 have hm:(s.list.flatMap fun x=>(be 4 x.toNat).map b8)=(s.list.flatMap fun x=>be 4 x.toNat).map b8:=by rw [List.map_flatMap]
 rw [hm,List.getElem?_map,Nat.mul_comm i 4] at this
 obtain ⟨c,hc,hcc⟩:=Option.map_eq_some_iff.1 this
 rw [hc,List.getD_eq_getElem?_getD,hx]
 have:c.toNat=(UInt8.ofNat (x.toNat / 2 ^ (24 - 8 * j))).toNat:=by
  have:=(Value.int.inj hcc).2
  omega
 rw [UInt8.toNat_inj.1 this];rfl
end
end Go.Proofs.YtgkehahklccacaaGreatDoor
