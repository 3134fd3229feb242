import Derived.Test.YtcnckjlmldnblaaGreatDoorR2
import Derived.Test.YtcnckjlmldnblaaGreatDoorX4a
import Derived.BigGuardPart
import Derived.IntWalk
import Derived.Handy
import Derived.OrdersHeld
import Derived.Deep.RegionHeld3
import Derived.Test.YtcnckjlmldnblaaGreatDoorE55
import Derived.WalkLawsBesides
namespace Go.Proofs.YtcnckjlmldnblaaGreatDoor
open Go Go.RowKit
set_option maxRecDepth 100000
set_option maxHeartbeats 4000000
set_option linter.unusedVariables false
set_option linter.unusedSimpArgs false
open List renaming setIfInBounds_toArray → pa, set_cons_zero → pb, set_cons_succ → pc, getElem_toArray → pd, getElem_cons_succ → pe, getElem_cons_zero → pf
theorem slK:Sl Tryz.prog 125 127 (.agg #[.int .i64 0,.bool false]) 2 16:=⟨by kernel_rfl,by kernel_rfl,rfl,by decide⟩
theorem new_kd (w:World) (k:Int) (o:Bool) (j:Nat) (u:Value) (h:(Kd (k,o))[j]?=some u):(w.alloc (.cells #[.int .i64 k,.bool o] 127)).cell? ((⟨w.heap.size,0,none⟩:Addr).add j)=some u:=by
 rw [Addr.add_lit,cell_of_row _ _ _ _ _ _ (heap_alloc_new w _),Nat.zero_add]
 simpa [Kd] using h
def KdOf (b:Int):Int × Bool:=(b,b == 0)
def OneSays (e:Ending) (R:Bool):Prop:=∃ (k:Int) (o:Bool),e=.returned (.tuple #[.agg #[.int .i64 k,.bool o],.bool R])
theorem row_gen (w:World) (op:Int) (a:Option Addr) (n c:Nat) (bs:List Int) (hr:RS 1 Iv w a n c bs) (hn:n≤1000000) (R:Bool)
 (HO:∀ (W:World) (a':Option Addr) (c':Nat),RS 2 Kd W a' n c' (bs.map KdOf)→Calls Tryz.prog 88 #[.int .i64 op,.slice a' n c'] W fun e w'=>OneSays e R∧Below W.heap.size W w') :
 Calls Tryz.prog 73 #[.int .i64 op,.slice a n c] w fun e w'=>e=.returned (.bool R)∧Below w.heap.size w w':=by
 have HR:=Lib.hid hr
 have HL:=Lib.hid hr.1
 have HH:=Lib.hid HO
 obtain ⟨B,hB⟩:∃ B,B=w.heap.size:=⟨_,rfl⟩
 have HBB:=Lib.hid hB
 clear hr HO hB
 go_enter Tryz.func73,Tryz.ntmps73
 go_wp2_with fail
 go_loopw [5,6] (fun v i wr=>∃ (k:Nat) (va:Option Addr) (vc:Nat),k≤n∧i=.int .i64 k∧v=.slice va k vc∧wr.ownsRow B 127 2 (.slice va k vc) k (((bs.take k).map KdOf).flatMap Kd)∧Below B w wr) (fun _ i _=>n - (intOf i).toNat)
 case atStart=>exact ⟨0,none,0,by omega,rfl,rfl,World.ownsRow_nil _ _ _ _,Below.refl _ _⟩
 case round =>
  obtain ⟨k,va,vc,hk,rfl,rfl,ho,hb⟩:=hrel
  have HOW:=Lib.hid ho
  have HBR:=Lib.hid hb
  have hsz:=hb.size
  have HRR:=Lib.hid (HR.out.below (hb.mono (by have:=HBB.out;omega)))
  clear ho hb
  by_cases hlt:k < n
  · have hltI:(k:Int) < (n:Int):=by omega
    obtain ⟨nb,no,x,he,hy,-⟩:=HRR.out.at hlt
    subst he
    have n0:wr.cell? ⟨nb,no+k,none⟩=some (.int .i64 x):=by have:=RS.atR HRR.out hy 0 _ rfl;simpa using this
    have hnb:=block_lt_of_cell n0
    have HTK:=Lib.hid (show (bs.take (k+1)).map KdOf=(bs.take k).map KdOf++[KdOf x] by rw [List.take_add_one,hy];simp)
    clear hy
    go_wp2_with fail
    go_region_law (first
     | (refine S_appendN rfl (.tmp 15) (.tmp 26) 125 (by rfl) slK B (.slice va k vc) k _ (by rfl) (own_below HOW.out (((Below.refl _ _).drew).alloc (Nat.le_refl _) _)) ⟨wr.heap.size,0,none⟩ 1 1 (Kd (x,x == 0)) (by rfl) rfl (new_kd wr.drew x (x == 0)) (by simp [Kd,Value.oneCell']) (by omega) (by simp [maxLen];omega) (by have:=HBR.out.size;have:=HBB.out;simp;omega) (fun a6 c6 w6 ho6 hg6 hat6=>?_)))
    all_goals
     have HO6:=Lib.hid ho6
     have HB6:=Lib.hid (((HBR.out.trans (((Below.refl wr.heap.size wr).drew).mono (by have:=HBR.out.size;have:=HBB.out;omega))).alloc (by have:=HBR.out.size;have:=HBB.out;simp;omega) (.cells #[.int .i64 x,.bool (x == 0)] 127)).grown hg6 (by have:=HBR.out.size;have:=HBB.out;simp;omega) (fun z hz=>(HOW.out.lt z hz).1))
     clear ho6 hg6 hat6
     go_wp2
     go_roundw
     case rel=>exact ⟨k+1,a6,c6,by omega,by go_num,rfl,by rw [HTK.out,List.flatMap_append];exact HO6.out,HB6.out⟩
     case measure=>simp [intOf];omega
  · have hltI:¬ (k:Int) < (n:Int):=by omega
    obtain rfl:k=n:=by omega
    have HRK:=Lib.hid (show RS 2 Kd wr va k vc (bs.map KdOf) by
     have h:=HOW.out
     rw [List.take_of_length_le (by have:=HL.out;omega)] at h
     exact RS.of_owns h (by decide) Kd_len (by omega))
    have HBA:=Lib.hid (show Below w.heap.size w wr by rw [← HBB.out];exact HBR.out)
    have HC:=Lib.hid (HH.out wr va vc HRK.out)
    go_wp2_with (go_at_call 88;refine (HC.out).mono ?_;rintro e w4 ⟨⟨kk,oo,rfl⟩,hb4⟩)
    go_ret
    exact ⟨rfl,(HBA.out.trans (hb4.mono HBA.out.size)).trans ((bel1 _ _).mono (by have:=hb4.size;have:=HBA.out.size;omega))⟩
/-- Is there a row for an operator over these bases? -/
def rowB (op:Int) (bs:List Int):Bool :=
 if op=6 then bs.all (· == 3) else if op=7 then bs.getD 0 0 == 1 else if op=8 then bs.getD 0 0 == 2 else if op=27 then (bs.getD 0 0 == 3 || bs.getD 0 0 == 5) else decide (0 < binK op (bs.getD 0 0) (bs.getD 1 0))
theorem row_set_any (w:World) (a:Option Addr) (n c:Nat) (bs:List Int) (hr:RS 1 Iv w a n c bs) (hn:n≤1000000):Calls Tryz.prog 73 #[.int .i64 6,.slice a n c] w fun e w'=>e=.returned (.bool (rowB 6 bs))∧Below w.heap.size w w' :=
 row_gen w 6 a n c bs hr hn _ fun W a' c' h=>(oset W a' n c' _ h).mono fun e w' hh=>⟨by
  obtain ⟨he,-⟩:=hh
  unfold KindOut at he
  refine ⟨(setR (bs.map KdOf)).1.1,(setR (bs.map KdOf)).1.2,?_⟩
  rw [he]
  have:(setR (bs.map KdOf)).2=rowB 6 bs:=by
   unfold setR rowB
   rw [List.all_map,if_pos rfl]
   show (if (bs.all fun b=>b == 3)=true then (((5:Int),false),true) else ((0,false),false)).2=_
   cases bs.all (fun b=>b == 3) <;> rfl
  rw [this],hh.2⟩
theorem row_one_any (w:World) (op:Int) (hop:op=7∨op=8∨op=27) (a:Option Addr) (c:Nat) (b0:Int) (hr:RS 1 Iv w a 1 c [b0]):Calls Tryz.prog 73 #[.int .i64 op,.slice a 1 c] w fun e w'=>e=.returned (.bool (rowB op [b0]))∧Below w.heap.size w w':=by
 refine row_gen w op a 1 c [b0] hr (by omega) _ fun W a' c' h=>?_
 rcases hop with rfl | rfl | rfl
 · exact (op7 W a' 1 c' b0 (b0 == 0) _ h rfl).mono fun e w' hh=>⟨⟨1,false,hh.1⟩,hh.2⟩
 · exact (op8 W a' 1 c' b0 (b0 == 0) _ h rfl).mono fun e w' hh=>⟨⟨2,false,hh.1⟩,hh.2⟩
 · exact (op27 W a' 1 c' b0 (b0 == 0) _ h rfl).mono fun e w' hh=>⟨⟨1,false,hh.1⟩,hh.2⟩
theorem row_two_any (w:World) (op:Int) (hop:op=13∨op=14∨op=15∨op=16∨op=17∨op=18∨op=19∨op=20∨op=21∨op=22∨op=28∨op=31∨op=32) (a:Option Addr) (c:Nat) (b0 b1:Int) (hr:RS 1 Iv w a 2 c [b0,b1]):Calls Tryz.prog 73 #[.int .i64 op,.slice a 2 c] w fun e w'=>e=.returned (.bool (rowB op [b0,b1]))∧Below w.heap.size w w':=by
 refine row_gen w op a 2 c [b0,b1] hr (by omega) _ fun W a' c' h=>?_
 refine (obin W op (by omega) a' 2 c' b0 b1 (b0 == 0) (b1 == 0) _ h rfl rfl).mono fun e w' hh=>⟨⟨binK op b0 b1,false,?_⟩,hh.2⟩
 have he:=hh.1
 unfold KindOut at he
 rw [he]
 have:rowB op [b0,b1]=decide (0 < binK op b0 b1):=by
  unfold rowB
  rw [if_neg (by omega),if_neg (by omega),if_neg (by omega),if_neg (by omega)]
  rfl
 rw [this]
def RWu (r:Wr) (z:Vl) (er:Int):Prop:=(r=.ok z∧er=0)∨(r=.error er∧er ≠ 0)
/-- What an operator of the document's answers. -/
def TogOut (w0 w:World) (e:Ending) (w':World) (r:Wr):Prop:=∃ v z er,e=.returned (.tuple #[v,.int .i64 er])∧RV w0 w' w.heap.size v z∧RWu r z er
theorem TogOut.ok {w0 w w':World} {e:Ending} {r:Wr} {v:Value} {z:Vl} (he:e=.returned (.tuple #[v,.int .i64 0])) (hv:RV w0 w' w.heap.size v z) (hr:r=.ok z):TogOut w0 w e w' r:=⟨v,z,0,he,hv,.inl ⟨hr,rfl⟩⟩
theorem TogOut.err {w0 w w':World} {e:Ending} {r:Wr} {v:Value} {z:Vl} {er:Int} (he:e=.returned (.tuple #[v,.int .i64 er])) (hv:RV w0 w' w.heap.size v z) (hr:r=.error er) (h0:er ≠ 0):TogOut w0 w e w' r:=⟨v,z,er,he,hv,.inr ⟨hr,h0⟩⟩
theorem RV.nil (w0 w':World) (B:Nat) (k n:Int) (t:ByteArray):RV w0 w' B (VA ⟨k,n,t,[]⟩ none 0 0) ⟨k,n,t,[]⟩:=⟨none,0,0,rfl,.inl (rz_nil1 w0)⟩
theorem rs_vac {w w0:World} {a:Option Addr} {l c:Nat} (h:RS 1 Sv w a l c []):RS 1 Sv w0 a l c []:=⟨h.1,h.2.1,h.2.2.1,fun i x h=>by simp at h⟩
theorem shape14 {x:Vl} (h:Fit x) (hk:x.k=1∨x.k=4):x=⟨x.k,x.n,ByteArray.empty,[]⟩:=by
 obtain ⟨f,-⟩:=right_parts h.r
 obtain ⟨k,n,t,ss⟩:=x
 simp only [formedV,Bool.and_eq_true,Bool.or_eq_true,beq_iff_eq,List.isEmpty_iff] at f hk ⊢
 obtain ⟨⟨f1,f2⟩,-⟩:=f
 have ht:t.toList=[]:=by
  rcases f1 with f1 | f1
  · omega
  · exact f1
 have hs:ss=[]:=by
  rcases f2 with f2 | f2
  · omega
  · exact f2
 subst hs
 have:t=ByteArray.empty:=toList_inj' (by simp [ht])
 rw [this]
theorem shape3 {x:Vl} (h:Fit x) (hk:x.k=3):x=⟨3,0,x.t,[]⟩∧x.t.size≤1024:=by
 obtain ⟨f,-,ht,-⟩:=right_parts h.r
 obtain ⟨k,n,t,ss⟩:=x
 simp only at hk ht
 subst hk
 simp [formedV] at f
 obtain ⟨f1,f2⟩:=f
 subst f1 f2
 exact ⟨rfl,ht⟩
theorem shape5 {x:Vl} (h:Fit x) (hk:x.k=5):x=⟨5,0,ByteArray.empty,x.ss⟩∧(∀ m ∈ x.ss,m.size≤1024)∧x.ss.length≤64:=by
 obtain ⟨f,-,-,hs,hl⟩:=right_parts h.r
 obtain ⟨k,n,t,ss⟩:=x
 simp only at hk hs hl
 subst hk
 simp [formedV] at f
 obtain ⟨f1,f2,f3⟩:=f
 have:t=ByteArray.empty:=toList_inj' (by simp [f1])
 rw [this,f3]
 exact ⟨rfl,hs,hl⟩
theorem numR_any (w:World) (op p q:Int) (hop:op=18∨op=19∨op=20∨op=21∨op=22) (hp:I64 p) (hq:I64 q):Calls Tryz.prog 89 #[.int .i64 op,.int .i64 p,.int .i64 q] w fun e w'=>NumRet e (numbersW op p q)∧Below w.heap.size w w':=by
 rcases hop with rfl | rfl | rfl | rfl | rfl
 · by_cases h:I64 (p+q)
   · exact num_add_ok w p q hp hq h
   · exact num_add_no w p q hp hq h
 · exact num_sub19 w p q hp hq
 · by_cases h:I64 (p * q)
   · exact num_mul_ok w p q hp hq h
   · exact num_mul_no w p q hp hq h
 · exact num_quo21 w p q hp hq
 · exact num_quo22 w p q hp hq
theorem numR_ok {op p q:Int} {z:Vl} (hop:op=18∨op=19∨op=20∨op=21∨op=22) (hp:I64 p) (hq:I64 q) (h:numbersW op p q=.ok z):∃ s,z=intV s:=by
 have hn:∀ m,numW m=.ok z→∃ s,z=intV s:=fun m h=>by
  unfold numW at h
  split at h
  · exact ⟨m,(Except.ok.inj h).symm⟩
  · cases h
 rcases hop with rfl | rfl | rfl | rfl | rfl
 · exact hn _ h
 · exact hn _ h
 · exact hn _ h
 · have h:quotW 21 p q=.ok z:=h
   unfold quotW at h
   split at h
   · cases h
   · rw [if_neg (by decide)] at h
     exact hn _ h
 · have h:quotW 22 p q=.ok z:=h
   unfold quotW at h
   split at h
   · cases h
   · rw [if_pos rfl] at h
     exact ⟨_,(Except.ok.inj h).symm⟩
theorem numR_err {op p q er:Int} (hop:op=18∨op=19∨op=20∨op=21∨op=22) (h:numbersW op p q=.error er):(er == 0)=false:=by
 have hn:∀ m,numW m=.error er→(er == 0)=false:=fun m h=>by
  unfold numW at h
  split at h
  · cases h
  · rw [← Except.error.inj h];rfl
 rcases hop with rfl | rfl | rfl | rfl | rfl
 · exact hn _ h
 · exact hn _ h
 · exact hn _ h
 · have h:quotW 21 p q=.error er:=h
   unfold quotW at h
   split at h
   · rw [← Except.error.inj h];rfl
   · rw [if_neg (by decide)] at h
     exact hn _ h
 · have h:quotW 22 p q=.error er:=h
   unfold quotW at h
   split at h
   · rw [← Except.error.inj h];rfl
   · rw [if_pos rfl] at h
     cases h
theorem heap_box_alloc {w1:World} {g:Nat} {z0 z1 z2 z3:Value} {t:TypeId} (h:w1.heap[g]?=some (.cells #[z0,z1,z2,z3] t (0,0))) (x0 x1 x2 x3:Value) (o:Obj) :
 (((((w1.setCell ⟨g,0,none⟩ x0).setCell ⟨g,1,none⟩ x1).setCell ⟨g,2,none⟩ x2).setCell ⟨g,3,none⟩ x3).alloc o).heap[g]?=some (.cells #[x0,x1,x2,x3] t (0,0)) :=
 (heap_old _ o (Array.getElem?_eq_some_iff.1 (heap_box h x0 x1 x2 x3)).1).trans (heap_box h x0 x1 x2 x3)
theorem below_box_alloc {B g:Nat} {w w1:World} (hg:B≤g) (hb:Below B w w1) (x0 x1 x2 x3:Value) (o:Obj) (hz:B≤w1.heap.size):Below B w (((((w1.setCell ⟨g,0,none⟩ x0).setCell ⟨g,1,none⟩ x1).setCell ⟨g,2,none⟩ x2).setCell ⟨g,3,none⟩ x3).alloc o) :=
 (below_box hg hb x0 x1 x2 x3).alloc (by simpa using hz) o
theorem tog_in (w0 w:World) (s:ByteArray) (ss:List ByteArray) (a:Option Addr) (l c:Nat) (hx:RS 1 Sv w a l c ((⟨3,0,s,[]⟩:Vl):Vl).ss) (b:Option Addr) (m d:Nat) (hy:RS 1 Sv w b m d ((⟨5,0,ByteArray.empty,ss⟩:Vl):Vl).ss) :
 Calls Tryz.prog 76 #[.int .i64 17,VA (⟨3,0,s,[]⟩:Vl) a l c,VA (⟨5,0,ByteArray.empty,ss⟩:Vl) b m d] w fun e w'=>TogOut w0 w e w' (doubleW 17 (⟨3,0,s,[]⟩:Vl) (⟨5,0,ByteArray.empty,ss⟩:Vl))∧Below w.heap.size w w':=by
 obtain ⟨w3,hw3,g0,g1,g2,hb3,z3⟩:=boxes3 w (boxS (⟨3,0,s,[]⟩:Vl) a l c) (boxS (⟨5,0,ByteArray.empty,ss⟩:Vl) b m d) boxZ
 have HX:=Lib.hid (hx.below hb3)
 have HY:=Lib.hid (hy.below hb3)
 have HXW:=Lib.hid hx
 have HYW:=Lib.hid hy
 have hl:=hx.1
 have hm:=hy.1
 have HB3:=Lib.hid hb3
 have G0:=Lib.hid g0
 have G1:=Lib.hid g1
 have G2:=Lib.hid (show w3.heap[w.heap.size+1+1]?=some boxZ from g2)
 have z30:w.heap.size < w3.heap.size:=by omega
 have z31:w.heap.size+1 < w3.heap.size:=by omega
 have z32:w.heap.size+1+1 < w3.heap.size:=by omega
 obtain ⟨c0,c1,c2,c3,-⟩:=box4 g0
 obtain ⟨d0,d1,d2,d3,-⟩:=box4 g1
 clear hx hy g0 g1 g2 hb3
 go_enter Tryz.func76,Tryz.ntmps76
 go_upto_region 1 with (fail)
 rw [← hw3]
 clear hw3
 go_wp2_with (first | (go_at_call 61;(with_reducible refine (in_any w3 b m d ss HY.out s).mono ?_);rintro e w' ⟨rfl,rfl⟩) | (go_at_call 60;refine (boolean_any _ (inSS ss s)).mono ?_;rintro e w4 ⟨rfl,hb4⟩;have G24:=Lib.hid ((hb4.block _ z32).trans G2.out);obtain ⟨r0,r1,r2,r3,f0,f1,f2,f3⟩:=box4 G24.out))
 refine bodyPost_ret (res2c Tryz.results76 _ _ (w.heap.size+1+1) _ _ _ _ _ (heap_box G24.out _ _ _ _) rfl rfl) rfl ?_
 exact ⟨.ok (z:=truthV (inSS ss s)) rfl ⟨none,0,0,rfl,.inl (rz_nil1 w0)⟩ (by simp [doubleW]),below_box (by omega) (HB3.out.trans (hb4.mono (by omega))) _ _ _ _⟩
theorem tog_mm31lt (w0 w:World) (kk p q:Int) (a:Option Addr) (l c:Nat) (hx:RS 1 Sv w a l c ((⟨kk,p,ByteArray.empty,[]⟩:Vl):Vl).ss) (b:Option Addr) (m d:Nat) (hy:RS 1 Sv w b m d ((⟨kk,q,ByteArray.empty,[]⟩:Vl):Vl).ss) (hc:p < q) (hxz:a=none→c=0) (hyz:b=none→d=0) (h5:(kk == 5)=false) (hdw:doubleW 31 (⟨kk,p,ByteArray.empty,[]⟩:Vl) (⟨kk,q,ByteArray.empty,[]⟩:Vl)=.ok (⟨kk,p,ByteArray.empty,[]⟩:Vl)) :
 Calls Tryz.prog 76 #[.int .i64 31,VA (⟨kk,p,ByteArray.empty,[]⟩:Vl) a l c,VA (⟨kk,q,ByteArray.empty,[]⟩:Vl) b m d] w fun e w'=>TogOut w0 w e w' (doubleW 31 (⟨kk,p,ByteArray.empty,[]⟩:Vl) (⟨kk,q,ByteArray.empty,[]⟩:Vl))∧Below w.heap.size w w':=by
 obtain ⟨w3,hw3,g0,g1,g2,hb3,z3⟩:=boxes3 w (boxS (⟨kk,p,ByteArray.empty,[]⟩:Vl) a l c) (boxS (⟨kk,q,ByteArray.empty,[]⟩:Vl) b m d) boxZ
 have HX:=Lib.hid (hx.below hb3)
 have HY:=Lib.hid (hy.below hb3)
 have HXW:=Lib.hid hx
 have HYW:=Lib.hid hy
 have hl:=hx.1
 have hm:=hy.1
 have HB3:=Lib.hid hb3
 have G0:=Lib.hid g0
 have G1:=Lib.hid g1
 have G2:=Lib.hid (show w3.heap[w.heap.size+1+1]?=some boxZ from g2)
 have z30:w.heap.size < w3.heap.size:=by omega
 have z31:w.heap.size+1 < w3.heap.size:=by omega
 have z32:w.heap.size+1+1 < w3.heap.size:=by omega
 obtain ⟨c0,c1,c2,c3,-⟩:=box4 g0
 obtain ⟨d0,d1,d2,d3,-⟩:=box4 g1
 clear hx hy g0 g1 g2 hb3
 have HDW:=Lib.hid hdw
 have HXZ:=Lib.hid hxz
 have HYZ:=Lib.hid hyz
 clear hdw hl hm hxz hyz
 go_enter Tryz.func76,Tryz.ntmps76
 go_upto_region 1 with (fail)
 rw [← hw3]
 clear hw3
 obtain ⟨r0,r1,r2,r3,f0,f1,f2,f3⟩:=box4 G2.out
 go_wp2_with fail
 refine bodyPost_ret (res2c Tryz.results76 _ _ (w.heap.size+1+1) _ _ _ _ _ (heap_box G2.out _ _ _ _) rfl rfl) rfl ?_
 exact ⟨.ok (z:=(⟨kk,p,ByteArray.empty,[]⟩:Vl)) rfl ⟨a,l,c,rfl,.inl ⟨rs_vac HXW.out,HXZ.out⟩⟩ HDW.out,below_box (by omega) HB3.out _ _ _ _⟩
theorem tog_mm31ge (w0 w:World) (kk p q:Int) (a:Option Addr) (l c:Nat) (hx:RS 1 Sv w a l c ((⟨kk,p,ByteArray.empty,[]⟩:Vl):Vl).ss) (b:Option Addr) (m d:Nat) (hy:RS 1 Sv w b m d ((⟨kk,q,ByteArray.empty,[]⟩:Vl):Vl).ss) (hc:¬ p < q) (hxz:a=none→c=0) (hyz:b=none→d=0) (h5:(kk == 5)=false) (hdw:doubleW 31 (⟨kk,p,ByteArray.empty,[]⟩:Vl) (⟨kk,q,ByteArray.empty,[]⟩:Vl)=.ok (⟨kk,q,ByteArray.empty,[]⟩:Vl)) :
 Calls Tryz.prog 76 #[.int .i64 31,VA (⟨kk,p,ByteArray.empty,[]⟩:Vl) a l c,VA (⟨kk,q,ByteArray.empty,[]⟩:Vl) b m d] w fun e w'=>TogOut w0 w e w' (doubleW 31 (⟨kk,p,ByteArray.empty,[]⟩:Vl) (⟨kk,q,ByteArray.empty,[]⟩:Vl))∧Below w.heap.size w w':=by
 obtain ⟨w3,hw3,g0,g1,g2,hb3,z3⟩:=boxes3 w (boxS (⟨kk,p,ByteArray.empty,[]⟩:Vl) a l c) (boxS (⟨kk,q,ByteArray.empty,[]⟩:Vl) b m d) boxZ
 have HX:=Lib.hid (hx.below hb3)
 have HY:=Lib.hid (hy.below hb3)
 have HXW:=Lib.hid hx
 have HYW:=Lib.hid hy
 have hl:=hx.1
 have hm:=hy.1
 have HB3:=Lib.hid hb3
 have G0:=Lib.hid g0
 have G1:=Lib.hid g1
 have G2:=Lib.hid (show w3.heap[w.heap.size+1+1]?=some boxZ from g2)
 have z30:w.heap.size < w3.heap.size:=by omega
 have z31:w.heap.size+1 < w3.heap.size:=by omega
 have z32:w.heap.size+1+1 < w3.heap.size:=by omega
 obtain ⟨c0,c1,c2,c3,-⟩:=box4 g0
 obtain ⟨d0,d1,d2,d3,-⟩:=box4 g1
 clear hx hy g0 g1 g2 hb3
 have HDW:=Lib.hid hdw
 have HXZ:=Lib.hid hxz
 have HYZ:=Lib.hid hyz
 clear hdw hl hm hxz hyz
 go_enter Tryz.func76,Tryz.ntmps76
 go_upto_region 1 with (fail)
 rw [← hw3]
 clear hw3
 obtain ⟨r0,r1,r2,r3,f0,f1,f2,f3⟩:=box4 G2.out
 go_wp2_with fail
 refine bodyPost_ret (res2c Tryz.results76 _ _ (w.heap.size+1+1) _ _ _ _ _ (heap_box G2.out _ _ _ _) rfl rfl) rfl ?_
 exact ⟨.ok (z:=(⟨kk,q,ByteArray.empty,[]⟩:Vl)) rfl ⟨b,m,d,rfl,.inl ⟨rs_vac HYW.out,HYZ.out⟩⟩ HDW.out,below_box (by omega) HB3.out _ _ _ _⟩
theorem tog_mm32lt (w0 w:World) (kk p q:Int) (a:Option Addr) (l c:Nat) (hx:RS 1 Sv w a l c ((⟨kk,p,ByteArray.empty,[]⟩:Vl):Vl).ss) (b:Option Addr) (m d:Nat) (hy:RS 1 Sv w b m d ((⟨kk,q,ByteArray.empty,[]⟩:Vl):Vl).ss) (hc:p < q) (hxz:a=none→c=0) (hyz:b=none→d=0) (h5:(kk == 5)=false) (hdw:doubleW 32 (⟨kk,p,ByteArray.empty,[]⟩:Vl) (⟨kk,q,ByteArray.empty,[]⟩:Vl)=.ok (⟨kk,q,ByteArray.empty,[]⟩:Vl)) :
 Calls Tryz.prog 76 #[.int .i64 32,VA (⟨kk,p,ByteArray.empty,[]⟩:Vl) a l c,VA (⟨kk,q,ByteArray.empty,[]⟩:Vl) b m d] w fun e w'=>TogOut w0 w e w' (doubleW 32 (⟨kk,p,ByteArray.empty,[]⟩:Vl) (⟨kk,q,ByteArray.empty,[]⟩:Vl))∧Below w.heap.size w w':=by
 obtain ⟨w3,hw3,g0,g1,g2,hb3,z3⟩:=boxes3 w (boxS (⟨kk,p,ByteArray.empty,[]⟩:Vl) a l c) (boxS (⟨kk,q,ByteArray.empty,[]⟩:Vl) b m d) boxZ
 have HX:=Lib.hid (hx.below hb3)
 have HY:=Lib.hid (hy.below hb3)
 have HXW:=Lib.hid hx
 have HYW:=Lib.hid hy
 have hl:=hx.1
 have hm:=hy.1
 have HB3:=Lib.hid hb3
 have G0:=Lib.hid g0
 have G1:=Lib.hid g1
 have G2:=Lib.hid (show w3.heap[w.heap.size+1+1]?=some boxZ from g2)
 have z30:w.heap.size < w3.heap.size:=by omega
 have z31:w.heap.size+1 < w3.heap.size:=by omega
 have z32:w.heap.size+1+1 < w3.heap.size:=by omega
 obtain ⟨c0,c1,c2,c3,-⟩:=box4 g0
 obtain ⟨d0,d1,d2,d3,-⟩:=box4 g1
 clear hx hy g0 g1 g2 hb3
 have HDW:=Lib.hid hdw
 have HXZ:=Lib.hid hxz
 have HYZ:=Lib.hid hyz
 clear hdw hl hm hxz hyz
 go_enter Tryz.func76,Tryz.ntmps76
 go_upto_region 1 with (fail)
 rw [← hw3]
 clear hw3
 obtain ⟨r0,r1,r2,r3,f0,f1,f2,f3⟩:=box4 G2.out
 go_wp2_with fail
 refine bodyPost_ret (res2c Tryz.results76 _ _ (w.heap.size+1+1) _ _ _ _ _ (heap_box G2.out _ _ _ _) rfl rfl) rfl ?_
 exact ⟨.ok (z:=(⟨kk,q,ByteArray.empty,[]⟩:Vl)) rfl ⟨b,m,d,rfl,.inl ⟨rs_vac HYW.out,HYZ.out⟩⟩ HDW.out,below_box (by omega) HB3.out _ _ _ _⟩
theorem tog_mm32ge (w0 w:World) (kk p q:Int) (a:Option Addr) (l c:Nat) (hx:RS 1 Sv w a l c ((⟨kk,p,ByteArray.empty,[]⟩:Vl):Vl).ss) (b:Option Addr) (m d:Nat) (hy:RS 1 Sv w b m d ((⟨kk,q,ByteArray.empty,[]⟩:Vl):Vl).ss) (hc:¬ p < q) (hxz:a=none→c=0) (hyz:b=none→d=0) (h5:(kk == 5)=false) (hdw:doubleW 32 (⟨kk,p,ByteArray.empty,[]⟩:Vl) (⟨kk,q,ByteArray.empty,[]⟩:Vl)=.ok (⟨kk,p,ByteArray.empty,[]⟩:Vl)) :
 Calls Tryz.prog 76 #[.int .i64 32,VA (⟨kk,p,ByteArray.empty,[]⟩:Vl) a l c,VA (⟨kk,q,ByteArray.empty,[]⟩:Vl) b m d] w fun e w'=>TogOut w0 w e w' (doubleW 32 (⟨kk,p,ByteArray.empty,[]⟩:Vl) (⟨kk,q,ByteArray.empty,[]⟩:Vl))∧Below w.heap.size w w':=by
 obtain ⟨w3,hw3,g0,g1,g2,hb3,z3⟩:=boxes3 w (boxS (⟨kk,p,ByteArray.empty,[]⟩:Vl) a l c) (boxS (⟨kk,q,ByteArray.empty,[]⟩:Vl) b m d) boxZ
 have HX:=Lib.hid (hx.below hb3)
 have HY:=Lib.hid (hy.below hb3)
 have HXW:=Lib.hid hx
 have HYW:=Lib.hid hy
 have hl:=hx.1
 have hm:=hy.1
 have HB3:=Lib.hid hb3
 have G0:=Lib.hid g0
 have G1:=Lib.hid g1
 have G2:=Lib.hid (show w3.heap[w.heap.size+1+1]?=some boxZ from g2)
 have z30:w.heap.size < w3.heap.size:=by omega
 have z31:w.heap.size+1 < w3.heap.size:=by omega
 have z32:w.heap.size+1+1 < w3.heap.size:=by omega
 obtain ⟨c0,c1,c2,c3,-⟩:=box4 g0
 obtain ⟨d0,d1,d2,d3,-⟩:=box4 g1
 clear hx hy g0 g1 g2 hb3
 have HDW:=Lib.hid hdw
 have HXZ:=Lib.hid hxz
 have HYZ:=Lib.hid hyz
 clear hdw hl hm hxz hyz
 go_enter Tryz.func76,Tryz.ntmps76
 go_upto_region 1 with (fail)
 rw [← hw3]
 clear hw3
 obtain ⟨r0,r1,r2,r3,f0,f1,f2,f3⟩:=box4 G2.out
 go_wp2_with fail
 refine bodyPost_ret (res2c Tryz.results76 _ _ (w.heap.size+1+1) _ _ _ _ _ (heap_box G2.out _ _ _ _) rfl rfl) rfl ?_
 exact ⟨.ok (z:=(⟨kk,p,ByteArray.empty,[]⟩:Vl)) rfl ⟨a,l,c,rfl,.inl ⟨rs_vac HXW.out,HXZ.out⟩⟩ HDW.out,below_box (by omega) HB3.out _ _ _ _⟩
theorem tog_join (w0 w:World) (s t:ByteArray) (a:Option Addr) (l c:Nat) (hx:RS 1 Sv w a l c ((⟨3,0,s,[]⟩:Vl):Vl).ss) (b:Option Addr) (m d:Nat) (hy:RS 1 Sv w b m d ((⟨3,0,t,[]⟩:Vl):Vl).ss) (hst:s.size≤1024∧t.size≤1024) :
 Calls Tryz.prog 76 #[.int .i64 28,VA (⟨3,0,s,[]⟩:Vl) a l c,VA (⟨3,0,t,[]⟩:Vl) b m d] w fun e w'=>TogOut w0 w e w' (doubleW 28 (⟨3,0,s,[]⟩:Vl) (⟨3,0,t,[]⟩:Vl))∧Below w.heap.size w w':=by
 obtain ⟨w3,hw3,g0,g1,g2,hb3,z3⟩:=boxes3 w (boxS (⟨3,0,s,[]⟩:Vl) a l c) (boxS (⟨3,0,t,[]⟩:Vl) b m d) boxZ
 have HX:=Lib.hid (hx.below hb3)
 have HY:=Lib.hid (hy.below hb3)
 have HXW:=Lib.hid hx
 have HYW:=Lib.hid hy
 have hl:=hx.1
 have hm:=hy.1
 have HB3:=Lib.hid hb3
 have G0:=Lib.hid g0
 have G1:=Lib.hid g1
 have G2:=Lib.hid (show w3.heap[w.heap.size+1+1]?=some boxZ from g2)
 have z30:w.heap.size < w3.heap.size:=by omega
 have z31:w.heap.size+1 < w3.heap.size:=by omega
 have z32:w.heap.size+1+1 < w3.heap.size:=by omega
 obtain ⟨c0,c1,c2,c3,-⟩:=box4 g0
 obtain ⟨d0,d1,d2,d3,-⟩:=box4 g1
 clear hx hy g0 g1 g2 hb3
 have HSZ:=Lib.hid hst
 have hs1:=hst.1
 have hs2:=hst.2
 clear hst hl hm z3
 go_enter Tryz.func76,Tryz.ntmps76
 go_upto_region 1 with (fail)
 rw [← hw3]
 clear hw3
 go_upto_region 9 with (fail)
 obtain ⟨w5,hw5⟩:∃ w5,w5=w3.alloc (.cells #[.int .i64 3,.int .i64 0,.string (s++t),.slice none 0 0] 43):=⟨_,rfl⟩
 have g5:w5.heap[w3.heap.size]?=some (.cells #[.int .i64 3,.int .i64 0,.string (s++t),.slice none 0 0] 43 (0,0)):=by rw [hw5];exact heap_alloc_new w3 _
 have hb5:Below w3.heap.size w3 w5:=by rw [hw5];exact bel1 _ _
 have GZ:=Lib.hid ((hb5.block _ z32).trans G2.out)
 have HB5:=Lib.hid (HB3.out.trans (hb5.mono (by omega)))
 rw [← hw5]
 clear hw5 hb5 c0 c1 c2 c3 d0 d1 d2 d3
 obtain ⟨c0,c1,c2,c3,-⟩:=box4 g5
 clear g5
 go_wp2_with fail
 refine wp_region_held_drew (S:=(fun w'=>Below w.heap.size w w'∧w'.cell? ⟨w3.heap.size,0,none⟩=some (.int .i64 3)∧w'.cell? ⟨w3.heap.size,1,none⟩=some (.int .i64 0)∧w'.cell? ⟨w3.heap.size,2,none⟩=some (.string (s++t))∧w'.cell? ⟨w3.heap.size,3,none⟩=some (.slice none 0 0))) (by kernel_rfl) ⟨(HB5.out.trans ((Below.refl w5.heap.size w5).drew.mono HB5.out.size)),c0,c1,c2,c3⟩ (fun hHeld=>?_)
 clear c0 c1 c2 c3
 obtain ⟨wd,hwd⟩:∃ wd,wd=w5.drew:=⟨_,rfl⟩
 have GZD:=Lib.hid (show wd.heap[w.heap.size+1+1]?=some boxZ by rw [hwd];exact GZ.out)
 rw [← hwd] at hHeld ⊢
 clear hwd
 refine tkI (i:=0) (v:=?_) rfl ?_ ?_
 rotate_left
 · intro w hSw;(try dsimp only at hSw);go_simp;try with_reducible rfl
 (try simp only [Act.put,pa,pb,pc,pd,pe,pf])
 refine tkI (i:=1) (v:=?_) rfl ?_ ?_
 rotate_left
 · intro w hSw;(try dsimp only at hSw);go_simp;try with_reducible rfl
 (try simp only [Act.put,pa,pb,pc,pd,pe,pf])
 refine wpAnyH_ready (rs:=[2]) (by kernel_rfl) (by simp) ?_
 refine AllReadyH.cons (o:=_) rfl (fun K hK=>?_) AllReadyH.nil
 go_simp
 refine (refright_any wd ⟨3,0,s++t,[]⟩ none 0 0 (rs_nil1 _)).mono ?_
 rintro e y1 ⟨rfl,hb⟩
 have GZ1:=Lib.hid ((hb.block _ (Array.getElem?_eq_some_iff.1 GZD.out).1).trans GZD.out)
 refine hK.out _ _ ⟨hHeld.1.trans (hb.mono hHeld.1.size),keepb hb hHeld.2.1,keepb hb hHeld.2.2.1,keepb hb hHeld.2.2.2.1,keepb hb hHeld.2.2.2.2⟩ (fun hHeld=>?_)
 clear hK K hb
 (try simp only [Act.put,pa,pb,pc,pd,pe,pf])
 obtain ⟨d0,d1,d2,d3,f0,f1,f2,f3⟩:=box4 GZ1.out
 have hne:w3.heap.size ≠ w.heap.size+1+1:=by omega
 refine wpAnyH_ready (rs:=[3]) (by kernel_rfl) (by simp) ?_
 refine AllReadyH.cons (o:=_) rfl (fun K hK=>?_) AllReadyH.nil
 go_simp
 refine hK.out _ _ ⟨below_box (by omega) hHeld.1 _ _ _ _,keepo hHeld.2.1 hne,keepo hHeld.2.2.1 hne,keepo hHeld.2.2.2.1 hne,keepo hHeld.2.2.2.2 hne⟩ (fun hHeld=>?_)
 clear hK K d0 d1 d2 d3 f0 f1 f2 f3
 (try simp only [Act.put,pa,pb,pc,pd,pe,pf])
 refine tkI (i:=4) (v:=?_) rfl ?_ ?_
 rotate_left
 · intro w hSw;(try dsimp only at hSw);go_simp;try with_reducible rfl
 (try simp only [Act.put,pa,pb,pc,pd,pe,pf])
 refine wpAnyH_done (by kernel_rfl) ?_ _
 go_wp2_with fail
 refine bodyPost_ret (res2c Tryz.results76 _ _ (w.heap.size+1+1) _ _ _ _ _ (heap_box GZ1.out _ _ _ _) rfl rfl) rfl ?_
 have hr:rightV ⟨3,0,s++t,[]⟩=if 1024 < (s++t).size then 113 else 0:=by
  unfold rightV
  simp [formedV,longB]
 have hd:doubleW 28 ⟨3,0,s,[]⟩ ⟨3,0,t,[]⟩=shortW (s++t):=by simp [doubleW]
 by_cases hj:1024 < (s++t).size
 · exact ⟨.err (z:=⟨3,0,s++t,[]⟩) (by rw [hr,if_pos hj];rfl) ⟨none,0,0,rfl,.inl (rz_nil1 w0)⟩ (by rw [hd,shortW,if_pos hj]) (by decide),hHeld.1⟩
 · exact ⟨.ok (z:=⟨3,0,s++t,[]⟩) (by rw [hr,if_neg hj];rfl) ⟨none,0,0,rfl,.inl (rz_nil1 w0)⟩ (by rw [hd,shortW,if_neg hj]),hHeld.1⟩
theorem set_right {l:List ByteArray} (h:∀ m ∈ l,m.size≤1024):rightV ⟨5,0,ByteArray.empty,setOf l⟩=if 64 < (setOf l).length then 114 else 0:=by
 have h1:upB (setOf l)=true:=(upB_iff _).2 (setOf_rise l)
 have h2:((setOf l).any fun m=>decide (1024 < m.size))=false:=by
  rw [List.any_eq_false]
  intro m hm
  have:=h m ((setOf_mem l m).1 hm)
  simp
  omega
 unfold rightV
 simp [formedV,longB,h1,h2]
theorem setOf_swap (l m:List ByteArray):setOf (l++m)=setOf (m++l):=by
 refine rise_uniq _ _ (setOf_rise _) (setOf_rise _) fun x=>?_
 rw [setOf_mem,setOf_mem,List.mem_append,List.mem_append]
 exact Or.comm
theorem set_tog {w0 w w':World} {v:Value} {l:List ByteArray} {r:Wr} (h:∀ m ∈ l,m.size≤1024) (hr:r=membersW l) (hs:SV w' w.heap.size v ⟨5,0,ByteArray.empty,setOf l⟩) :
 TogOut w0 w (.returned (.tuple #[v,.int .i64 (rightV ⟨5,0,ByteArray.empty,setOf l⟩)])) w' r:=by
 have hv:RV w0 w' w.heap.size v ⟨5,0,ByteArray.empty,setOf l⟩:=by
  obtain ⟨a,n,c,e,hh⟩:=id hs
  exact ⟨a,n,c,e,.inr (by rw [← e];exact hs)⟩
 rw [set_right h]
 subst hr
 by_cases hc:64 < (setOf l).length
 · rw [if_pos hc]
   exact .err rfl hv (by rw [membersW,if_pos hc]) (by decide)
 · rw [if_neg hc]
   exact .ok rfl hv (by rw [membersW,if_neg hc])
theorem tog_add5 (w0 w:World) (ss:List ByteArray) (ts:List ByteArray) (a:Option Addr) (l c:Nat) (hx:RS 1 Sv w a l c ((⟨5,0,ByteArray.empty,ss⟩:Vl):Vl).ss) (b:Option Addr) (m d:Nat) (hy:RS 1 Sv w b m d ((⟨5,0,ByteArray.empty,ts⟩:Vl):Vl).ss) (hxz:a=none→c=0) (hyz:b=none→d=0) (hs:(∀ z ∈ ss,z.size≤1024)∧ss.length≤64) (ht:(∀ z ∈ ts,z.size≤1024)∧ts.length≤64) (hdw:doubleW 18 (⟨5,0,ByteArray.empty,ss⟩:Vl) (⟨5,0,ByteArray.empty,ts⟩:Vl)=setsW 18 ss ts) :
 Calls Tryz.prog 76 #[.int .i64 18,VA (⟨5,0,ByteArray.empty,ss⟩:Vl) a l c,VA (⟨5,0,ByteArray.empty,ts⟩:Vl) b m d] w fun e w'=>TogOut w0 w e w' (doubleW 18 (⟨5,0,ByteArray.empty,ss⟩:Vl) (⟨5,0,ByteArray.empty,ts⟩:Vl))∧Below w.heap.size w w':=by
 obtain ⟨w3,hw3,g0,g1,g2,hb3,z3⟩:=boxes3 w (boxS (⟨5,0,ByteArray.empty,ss⟩:Vl) a l c) (boxS (⟨5,0,ByteArray.empty,ts⟩:Vl) b m d) boxZ
 have HX:=Lib.hid (hx.below hb3)
 have HY:=Lib.hid (hy.below hb3)
 have HXW:=Lib.hid hx
 have HYW:=Lib.hid hy
 have hl:=hx.1
 have hm:=hy.1
 have HB3:=Lib.hid hb3
 have G0:=Lib.hid g0
 have G1:=Lib.hid g1
 have G2:=Lib.hid (show w3.heap[w.heap.size+1+1]?=some boxZ from g2)
 have z30:w.heap.size < w3.heap.size:=by omega
 have z31:w.heap.size+1 < w3.heap.size:=by omega
 have z32:w.heap.size+1+1 < w3.heap.size:=by omega
 obtain ⟨c0,c1,c2,c3,-⟩:=box4 g0
 obtain ⟨d0,d1,d2,d3,-⟩:=box4 g1
 clear hx hy g0 g1 g2 hb3
 have HLX:=Lib.hid hl
 have HLY:=Lib.hid hm
 have HXZ:=Lib.hid hxz
 have HYZ:=Lib.hid hyz
 have HS:=Lib.hid hs
 have HT:=Lib.hid ht
 have HDW:=Lib.hid hdw
 have hl64:l≤64:=by rw [← hl];exact hs.2
 have hm64:m≤64:=by rw [← hm];exact ht.2
 have HLIT:=Lib.hid (World.ownsRow_lit (w:=w3) (base:=w3.heap.size) (e:=9) (size:=1) #[] 0 (Nat.le_refl _) (by simp [maxLen]) rfl)
 have HSRC:=Lib.hid (src_cells Sv_len (by decide) (HY.out.below (bel1 w3 (.cells #[] 9))) hyz)
 have HTL:=Lib.hid (ht.1)
 have HDW19:=Lib.hid (trivial)
 clear hl hm hxz hyz hs ht hdw z3
 go_enter Tryz.func76,Tryz.ntmps76
 go_upto_region 1 with (fail)
 rw [← hw3]
 clear hw3
 go_upto_region 12 with (at_builtin;(refine L_appendE rfl _ _ _ rfl sl45 w3.heap.size (some ⟨w3.heap.size,0,none⟩) 0 0 [] rfl HLIT.out b m d (ts.flatMap Sv) rfl HSRC.out (by rw [flat_len Sv 1 Sv_len];have:=HLY.out;simp at this ⊢;omega) one_strs (by omega) (by simp [maxLen];omega) (by simp) (fun a5 c5 w5 ho5 hg5=>?_);rw [List.nil_append,Nat.zero_add] at ho5;(try rw [Nat.zero_add]);have HO5:=Lib.hid ho5;have HB5:=Lib.hid (show Below w3.heap.size w3 w5 from (bel1 w3 (.cells #[] 9)).grown hg5 (by simp) (fun k hk=>by cases hk;exact Nat.le_refl _));clear ho5 hg5))
 have G05:=Lib.hid ((HB5.out.block _ z30).trans G0.out)
 have G15:=Lib.hid ((HB5.out.block _ z31).trans G1.out)
 clear c0 c1 c2 c3 d0 d1 d2 d3
 obtain ⟨c0,c1,c2,c3,-⟩:=box4 G05.out
 obtain ⟨d0,d1,d2,d3,-⟩:=box4 G15.out
 have G0X:=G05
 go_upto_region 14 with (fail)
 have HSA:=Lib.hid (src_cells Sv_len (by decide) (HX.out.below HB5.out) HXZ.out)
 have HSZ:=Lib.hid (fun z hz=>(List.mem_append.1 hz).elim (fun h=>HTL.out z h) (fun h=>HS.out.1 z h):∀ z ∈ ts++ss,z.size≤1024)
 go_wp2_with (first | (at_builtin;(refine L_appendE rfl _ _ _ rfl sl45 w3.heap.size a5 (m) c5 _ rfl HO5.out a l c (ss.flatMap Sv) rfl HSA.out (by rw [flat_len Sv 1 Sv_len];have:=HLX.out;simp at this ⊢;omega) one_strs (by omega) (by simp [maxLen];omega) (by have:=HB5.out.size;omega) (fun a7 c7 w7 ho7 hg7=>?_);have HR7:=Lib.hid (show RS 1 Sv w7 a7 (m+l) c7 (ts++ss) from RS.of_owns (by rw [List.flatMap_append];exact ho7) (by decide) Sv_len (by omega));have HB7:=Lib.hid (HB5.out.grown hg7 HB5.out.size (fun z hz=>(HO5.out.lt z hz).1));clear ho7 hg7)) | (go_at_call 74;refine (refset_any w7 a7 (m+l) c7 (ts++ss) HR7.out (by omega)).mono ?_;rintro e w8 ⟨⟨v8,rfl,hs8⟩,hb8⟩;have HS8:=Lib.hid (hs8.mono (show w3.heap.size≤w7.heap.size from HB7.out.size));have HB8:=Lib.hid (HB7.out.trans (hb8.mono HB7.out.size));clear hb8;obtain ⟨a8,n8,c8,rfl,-⟩:=id hs8;clear hs8;have G28:=Lib.hid ((HB8.out.block _ z32).trans G2.out);obtain ⟨r0,r1,r2,r3,f0,f1,f2,f3⟩:=box4 G28.out))
 refine bodyPost_ret (res2c Tryz.results76 _ _ (w.heap.size+1+1) _ _ _ _ _ (heap_box G28.out _ _ _ _) rfl rfl) rfl ?_
 exact ⟨set_tog (l:=ts++ss) HSZ.out (by rw [HDW.out];unfold setsW;rw [if_pos rfl];unfold membersW;rw [setOf_swap]) ((SV.setbox HS8.out G28.out (by decide) _ _ _ _).mono (by omega)),below_box (by omega) (HB3.out.trans (HB8.out.mono (by omega))) _ _ _ _⟩
theorem tog_add3 (w0 w:World) (ss:List ByteArray) (t:ByteArray) (a:Option Addr) (l c:Nat) (hx:RS 1 Sv w a l c ((⟨5,0,ByteArray.empty,ss⟩:Vl):Vl).ss) (b:Option Addr) (m d:Nat) (hy:RS 1 Sv w b m d ((⟨3,0,t,[]⟩:Vl):Vl).ss) (hxz:a=none→c=0) (hyz:b=none→d=0) (hs:(∀ z ∈ ss,z.size≤1024)∧ss.length≤64) (ht:t.size≤1024) (hdw:doubleW 18 (⟨5,0,ByteArray.empty,ss⟩:Vl) (⟨3,0,t,[]⟩:Vl)=setsW 18 ss [t]) :
 Calls Tryz.prog 76 #[.int .i64 18,VA (⟨5,0,ByteArray.empty,ss⟩:Vl) a l c,VA (⟨3,0,t,[]⟩:Vl) b m d] w fun e w'=>TogOut w0 w e w' (doubleW 18 (⟨5,0,ByteArray.empty,ss⟩:Vl) (⟨3,0,t,[]⟩:Vl))∧Below w.heap.size w w':=by
 obtain ⟨w3,hw3,g0,g1,g2,hb3,z3⟩:=boxes3 w (boxS (⟨5,0,ByteArray.empty,ss⟩:Vl) a l c) (boxS (⟨3,0,t,[]⟩:Vl) b m d) boxZ
 have HX:=Lib.hid (hx.below hb3)
 have HY:=Lib.hid (hy.below hb3)
 have HXW:=Lib.hid hx
 have HYW:=Lib.hid hy
 have hl:=hx.1
 have hm:=hy.1
 have HB3:=Lib.hid hb3
 have G0:=Lib.hid g0
 have G1:=Lib.hid g1
 have G2:=Lib.hid (show w3.heap[w.heap.size+1+1]?=some boxZ from g2)
 have z30:w.heap.size < w3.heap.size:=by omega
 have z31:w.heap.size+1 < w3.heap.size:=by omega
 have z32:w.heap.size+1+1 < w3.heap.size:=by omega
 obtain ⟨c0,c1,c2,c3,-⟩:=box4 g0
 obtain ⟨d0,d1,d2,d3,-⟩:=box4 g1
 clear hx hy g0 g1 g2 hb3
 have hm0:m=0:=by rw [← hm];rfl
 subst hm0
 have HLX:=Lib.hid hl
 have HLY:=Lib.hid hm
 have HXZ:=Lib.hid hxz
 have HYZ:=Lib.hid hyz
 have HS:=Lib.hid hs
 have HT:=Lib.hid ht
 have HDW:=Lib.hid hdw
 have hl64:l≤64:=by rw [← hl];exact hs.2
 have HLIT:=Lib.hid (World.ownsRow_lit (w:=w3) (base:=w3.heap.size) (e:=9) (size:=1) #[] 0 (Nat.le_refl _) (by simp [maxLen]) rfl)
 have HSRC:=Lib.hid (src_cells Sv_len (by decide) (HY.out.below (bel1 w3 (.cells #[] 9))) hyz)
 have HTL:=Lib.hid (fun z hz=>by rw [List.mem_singleton.1 hz];exact ht:∀ z ∈ [t],z.size≤1024)
 have HDW19:=Lib.hid (trivial)
 clear hl hm hxz hyz hs ht hdw z3
 go_enter Tryz.func76,Tryz.ntmps76
 go_upto_region 1 with (fail)
 rw [← hw3]
 clear hw3
 go_upto_region 12 with (at_builtin;(refine L_appendE rfl _ _ _ rfl sl45 w3.heap.size (some ⟨w3.heap.size,0,none⟩) 0 0 [] rfl HLIT.out b 0 d (([]:List ByteArray).flatMap Sv) rfl HSRC.out (by simp) one_strs (by omega) (by simp [maxLen]) (by simp) (fun a5 c5 w5 ho5 hg5=>?_);rw [List.nil_append,Nat.zero_add] at ho5;(try rw [Nat.zero_add]);have HO5:=Lib.hid ho5;have HB5:=Lib.hid (show Below w3.heap.size w3 w5 from (bel1 w3 (.cells #[] 9)).grown hg5 (by simp) (fun k hk=>by cases hk;exact Nat.le_refl _));clear ho5 hg5))
 have G05:=Lib.hid ((HB5.out.block _ z30).trans G0.out)
 have G15:=Lib.hid ((HB5.out.block _ z31).trans G1.out)
 clear c0 c1 c2 c3 d0 d1 d2 d3
 obtain ⟨c0,c1,c2,c3,-⟩:=box4 G05.out
 obtain ⟨d0,d1,d2,d3,-⟩:=box4 G15.out
 go_upto_region 14 with (at_builtin;(refine L_appendN rfl _ _ _ rfl sl45 w3.heap.size (.slice a5 0 c5) 0 _ rfl (own_below HO5.out (bel1 _ (.cells #[.string t] 9))) _ 1 1 (Sv t) rfl rfl (new_str _ t) (by simp [Sv,Value.oneCell']) (by omega) (by simp [maxLen]) (by have:=HB5.out.size;simp;omega) (fun a6 c6 w6 ho6 hg6 hat6=>?_);have HO6:=Lib.hid (show w6.ownsRow w3.heap.size 9 1 (.slice a6 1 c6) 1 ([t].flatMap Sv) by simpa using ho6);have HB6:=Lib.hid ((HB5.out.alloc (by have:=HB5.out.size;omega) (.cells #[.string t] 9)).grown hg6 (by have:=HB5.out.size;simp;omega) (fun z hz=>(HO5.out.lt z hz).1));clear ho6 hg6 hat6))
 (try simp only [Nat.zero_add])
 have G0X:=Lib.hid ((HB6.out.block _ z30).trans G0.out)
 clear c0 c1 c2 c3 d0 d1 d2 d3
 obtain ⟨c0,c1,c2,c3,-⟩:=box4 G0X.out
 have d0:True:=trivial
 have d1:True:=trivial
 have d2:True:=trivial
 have d3:True:=trivial
 have HSA:=Lib.hid (src_cells Sv_len (by decide) (HX.out.below HB6.out) HXZ.out)
 have HSZ:=Lib.hid (fun z hz=>(List.mem_append.1 hz).elim (fun h=>HTL.out z h) (fun h=>HS.out.1 z h):∀ z ∈ [t]++ss,z.size≤1024)
 go_wp2_with (first | (at_builtin;(refine L_appendE rfl _ _ _ rfl sl45 w3.heap.size a6 (1) c6 _ rfl HO6.out a l c (ss.flatMap Sv) rfl HSA.out (by rw [flat_len Sv 1 Sv_len];have:=HLX.out;simp at this ⊢;omega) one_strs (by omega) (by simp [maxLen];omega) (by have:=HB6.out.size;omega) (fun a7 c7 w7 ho7 hg7=>?_);have HR7:=Lib.hid (show RS 1 Sv w7 a7 (1+l) c7 ([t]++ss) from RS.of_owns (by rw [List.flatMap_append];exact ho7) (by decide) Sv_len (by omega));have HB7:=Lib.hid (HB6.out.grown hg7 HB6.out.size (fun z hz=>(HO6.out.lt z hz).1));clear ho7 hg7)) | (go_at_call 74;refine (refset_any w7 a7 (1+l) c7 ([t]++ss) HR7.out (by omega)).mono ?_;rintro e w8 ⟨⟨v8,rfl,hs8⟩,hb8⟩;have HS8:=Lib.hid (hs8.mono (show w3.heap.size≤w7.heap.size from HB7.out.size));have HB8:=Lib.hid (HB7.out.trans (hb8.mono HB7.out.size));clear hb8;obtain ⟨a8,n8,c8,rfl,-⟩:=id hs8;clear hs8;have G28:=Lib.hid ((HB8.out.block _ z32).trans G2.out);obtain ⟨r0,r1,r2,r3,f0,f1,f2,f3⟩:=box4 G28.out))
 refine bodyPost_ret (res2c Tryz.results76 _ _ (w.heap.size+1+1) _ _ _ _ _ (heap_box G28.out _ _ _ _) rfl rfl) rfl ?_
 exact ⟨set_tog (l:=[t]++ss) HSZ.out (by rw [HDW.out];unfold setsW;rw [if_pos rfl];unfold membersW;rw [setOf_swap]) ((SV.setbox HS8.out G28.out (by decide) _ _ _ _).mono (by omega)),below_box (by omega) (HB3.out.trans (HB8.out.mono (by omega))) _ _ _ _⟩
theorem tog_sub5 (w0 w:World) (ss:List ByteArray) (ts:List ByteArray) (a:Option Addr) (l c:Nat) (hx:RS 1 Sv w a l c ((⟨5,0,ByteArray.empty,ss⟩:Vl):Vl).ss) (b:Option Addr) (m d:Nat) (hy:RS 1 Sv w b m d ((⟨5,0,ByteArray.empty,ts⟩:Vl):Vl).ss) (hxz:a=none→c=0) (hyz:b=none→d=0) (hs:(∀ z ∈ ss,z.size≤1024)∧ss.length≤64) (ht:(∀ z ∈ ts,z.size≤1024)∧ts.length≤64) (hdw:doubleW 19 (⟨5,0,ByteArray.empty,ss⟩:Vl) (⟨5,0,ByteArray.empty,ts⟩:Vl)=setsW 19 ss ts) :
 Calls Tryz.prog 76 #[.int .i64 19,VA (⟨5,0,ByteArray.empty,ss⟩:Vl) a l c,VA (⟨5,0,ByteArray.empty,ts⟩:Vl) b m d] w fun e w'=>TogOut w0 w e w' (doubleW 19 (⟨5,0,ByteArray.empty,ss⟩:Vl) (⟨5,0,ByteArray.empty,ts⟩:Vl))∧Below w.heap.size w w':=by
 obtain ⟨w3,hw3,g0,g1,g2,hb3,z3⟩:=boxes3 w (boxS (⟨5,0,ByteArray.empty,ss⟩:Vl) a l c) (boxS (⟨5,0,ByteArray.empty,ts⟩:Vl) b m d) boxZ
 have HX:=Lib.hid (hx.below hb3)
 have HY:=Lib.hid (hy.below hb3)
 have HXW:=Lib.hid hx
 have HYW:=Lib.hid hy
 have hl:=hx.1
 have hm:=hy.1
 have HB3:=Lib.hid hb3
 have G0:=Lib.hid g0
 have G1:=Lib.hid g1
 have G2:=Lib.hid (show w3.heap[w.heap.size+1+1]?=some boxZ from g2)
 have z30:w.heap.size < w3.heap.size:=by omega
 have z31:w.heap.size+1 < w3.heap.size:=by omega
 have z32:w.heap.size+1+1 < w3.heap.size:=by omega
 obtain ⟨c0,c1,c2,c3,-⟩:=box4 g0
 obtain ⟨d0,d1,d2,d3,-⟩:=box4 g1
 clear hx hy g0 g1 g2 hb3
 have HLX:=Lib.hid hl
 have HLY:=Lib.hid hm
 have HXZ:=Lib.hid hxz
 have HYZ:=Lib.hid hyz
 have HS:=Lib.hid hs
 have HT:=Lib.hid ht
 have HDW:=Lib.hid hdw
 have hl64:l≤64:=by rw [← hl];exact hs.2
 have hm64:m≤64:=by rw [← hm];exact ht.2
 have HLIT:=Lib.hid (World.ownsRow_lit (w:=w3) (base:=w3.heap.size) (e:=9) (size:=1) #[] 0 (Nat.le_refl _) (by simp [maxLen]) rfl)
 have HSRC:=Lib.hid (src_cells Sv_len (by decide) (HY.out.below (bel1 w3 (.cells #[] 9))) hyz)
 have HTL:=Lib.hid (ht.1)
 have HDW19:=Lib.hid (show doubleW 19 (⟨5,0,ByteArray.empty,ss⟩:Vl) (⟨5,0,ByteArray.empty,ts⟩:Vl)=membersW (ss.filter fun z=>!inSS ts z) by rw [hdw];rfl)
 clear hl hm hxz hyz hs ht hdw z3
 go_enter Tryz.func76,Tryz.ntmps76
 go_upto_region 1 with (fail)
 rw [← hw3]
 clear hw3
 go_upto_region 12 with (at_builtin;(refine L_appendE rfl _ _ _ rfl sl45 w3.heap.size (some ⟨w3.heap.size,0,none⟩) 0 0 [] rfl HLIT.out b m d (ts.flatMap Sv) rfl HSRC.out (by rw [flat_len Sv 1 Sv_len];have:=HLY.out;simp at this ⊢;omega) one_strs (by omega) (by simp [maxLen];omega) (by simp) (fun a5 c5 w5 ho5 hg5=>?_);rw [List.nil_append,Nat.zero_add] at ho5;(try rw [Nat.zero_add]);have HO5:=Lib.hid ho5;have HB5:=Lib.hid (show Below w3.heap.size w3 w5 from (bel1 w3 (.cells #[] 9)).grown hg5 (by simp) (fun k hk=>by cases hk;exact Nat.le_refl _));clear ho5 hg5))
 have G05:=Lib.hid ((HB5.out.block _ z30).trans G0.out)
 have G15:=Lib.hid ((HB5.out.block _ z31).trans G1.out)
 clear c0 c1 c2 c3 d0 d1 d2 d3
 obtain ⟨c0,c1,c2,c3,-⟩:=box4 G05.out
 obtain ⟨d0,d1,d2,d3,-⟩:=box4 G15.out
 have G0X:=G05
 go_upto_region 14 with (fail)
 have HRM:=Lib.hid (show RS 1 Sv w5 a5 (m) c5 ts from RS.of_owns HO5.out (by decide) Sv_len (by omega))
 have HFL:=Lib.hid (fun k=>Nat.le_trans (List.length_filter_le _ _) (by have:=HLX.out;simp at this ⊢;omega):∀ k,((ss.take k).filter fun z=>!inSS ts z).length≤l)
 have HSZ:=Lib.hid (fun z hz=>HS.out.1 z (List.mem_filter.1 hz).1:∀ z ∈ (ss.filter fun z=>!inSS ts z),z.size≤1024)
 clear c0 c1 c2 c3 d0 d1 d2 d3
 obtain ⟨c0,c1,c2,c3,-⟩:=box4 G0X.out
 clear c0 c1 c2
 go_wp2_with fail
 clear c3
 go_loopw [12,13] (fun v i wr=>∃ (k:Nat) (va:Option Addr) (vc:Nat),k≤l∧i=.int .i64 k∧v=.slice va ((ss.take k).filter fun z=>!inSS ts z).length vc∧wr.ownsRow w5.heap.size 9 1 (.slice va ((ss.take k).filter fun z=>!inSS ts z).length vc) ((ss.take k).filter fun z=>!inSS ts z).length (((ss.take k).filter fun z=>!inSS ts z).flatMap Sv)∧Below w5.heap.size w5 wr) (fun _ i _=>l - (intOf i).toNat)
 case atStart=>exact ⟨0,none,0,by omega,rfl,rfl,World.ownsRow_nil _ _ _ _,Below.refl _ _⟩
 case round =>
  obtain ⟨k,va,vc,hk,rfl,rfl,ho,hb⟩:=hrel
  have HO:=Lib.hid ho
  have HBR:=Lib.hid hb
  have HBR3:=Lib.hid (HB5.out.trans (hb.mono HB5.out.size))
  have HFK:=Lib.hid (HFL.out k)
  have hfk:=HFK.out
  have G0R:=Lib.hid ((HBR3.out.block _ z30).trans G0.out)
  obtain ⟨c0,c1,c2,c3,-⟩:=box4 G0R.out
  clear ho hb c0 c1 c2
  by_cases hlt:k < l
  · have hltI:(k:Int) < (l:Int):=by omega
    obtain ⟨nb,no,x,he,hy,-⟩:=(HX.out.below HBR3.out).at hlt
    have HXR:=HX.out.below HBR3.out
    rw [he] at HXR c3
    have n0:wr.cell? ⟨nb,no+k,none⟩=some (.string x):=by have:=RS.atR HXR hy 0 _ rfl;simpa using this
    have hnb:=block_lt_of_cell n0
    clear HXR he
    cases hin:inSS ts x
    · have HTK:=Lib.hid (show ((ss.take (k+1)).filter fun z=>!inSS ts z)=((ss.take k).filter fun z=>!inSS ts z)++[x] by rw [List.take_add_one,hy,List.filter_append];simp [hin])
      clear hy
      have HIN:=Lib.hid hin
      generalize ((ss.take k).filter fun z=>!inSS ts z)=fl at *
      go_wp2_with (first | (go_at_call 61;refine (in_any wr a5 (m) c5 ts (HRM.out.below HBR.out) x).mono ?_;rintro e w' ⟨rfl,hw⟩;obtain rfl:=hw.symm;rw [HIN.out]) | (at_builtin;(refine L_appendN rfl _ _ _ rfl sl45 w5.heap.size (.slice va fl.length vc) fl.length _ rfl (own_below HO.out (bel1 _ (.cells #[.string x] 9))) _ 1 1 (Sv x) rfl rfl (new_str _ x) (by simp [Sv,Value.oneCell']) (by omega) (by simp [maxLen];omega) (by have:=HBR.out.size;simp;omega) (fun a6 c6 w6 ho6 hg6 hat6=>?_);have HO6:=Lib.hid ho6;have HB6:=Lib.hid ((HBR.out.alloc (by have:=HBR.out.size;omega) (.cells #[.string x] 9)).grown hg6 (by have:=HBR.out.size;simp;omega) (fun z hz=>(HO.out.lt z hz).1));clear ho6 hg6 hat6)))
      go_roundw
      case rel=>exact ⟨k+1,a6,c6,by omega,by go_num,by rw [HTK.out];simp,by rw [HTK.out,List.flatMap_append,List.length_append];exact HO6.out,HB6.out⟩
      case measure=>simp [intOf];omega
    · have HTK:=Lib.hid (show ((ss.take (k+1)).filter fun z=>!inSS ts z)=((ss.take k).filter fun z=>!inSS ts z) by rw [List.take_add_one,hy,List.filter_append];simp [hin])
      clear hy
      have HIN:=Lib.hid hin
      generalize ((ss.take k).filter fun z=>!inSS ts z)=fl at *
      go_wp2_with (go_at_call 61;refine (in_any wr a5 (m) c5 ts (HRM.out.below HBR.out) x).mono ?_;rintro e w' ⟨rfl,hw⟩;obtain rfl:=hw.symm;rw [HIN.out])
      go_roundw
      case rel=>exact ⟨k+1,va,vc,by omega,by go_num,by rw [HTK.out],by rw [HTK.out];exact HO.out,HBR.out⟩
      case measure=>simp [intOf];omega
  · have hltI:¬ (k:Int) < (l:Int):=by omega
    have HRF:=Lib.hid (show RS 1 Sv wr va (ss.filter fun z=>!inSS ts z).length vc (ss.filter fun z=>!inSS ts z) by
     have h:=HO.out
     rw [List.take_of_length_le (by have:=HLX.out;(try simp at this);omega)] at h
     exact RS.of_owns h (by decide) Sv_len (by have:=HFK.out;rw [List.take_of_length_le (by have:=HLX.out;(try simp at this);omega)] at this;omega))
    have HFN:=Lib.hid (show (ss.filter fun z=>!inSS ts z).length≤l by have:=HFK.out;rwa [List.take_of_length_le (by have:=HLX.out;(try simp at this);omega)] at this)
    have hfn:=HFN.out
    have HTKL:=Lib.hid (show ((ss.take k).filter fun z=>!inSS ts z)=(ss.filter fun z=>!inSS ts z) by rw [List.take_of_length_le (by have:=HLX.out;(try simp at this);omega)])
    rw [HTKL.out]
    clear HO HFK hfk
    generalize (ss.filter fun z=>!inSS ts z)=fl at *
    go_wp2_with (go_at_call 74;refine (refset_any wr va (fl.length) vc (fl) HRF.out (by omega)).mono ?_;rintro e w8 ⟨⟨v8,rfl,hs8⟩,hb8⟩;have HS8:=Lib.hid (hs8.mono (show w3.heap.size≤wr.heap.size from HBR3.out.size));have HB8:=Lib.hid (HBR3.out.trans (hb8.mono HBR3.out.size));clear hb8;obtain ⟨a8,n8,c8,rfl,-⟩:=id hs8;clear hs8;have G28:=Lib.hid ((HB8.out.block _ z32).trans G2.out);obtain ⟨r0,r1,r2,r3,f0,f1,f2,f3⟩:=box4 G28.out)
    refine bodyPost_ret (res2c Tryz.results76 _ _ (w.heap.size+1+1) _ _ _ _ _ (heap_box G28.out _ _ _ _) rfl rfl) rfl ?_
    exact ⟨set_tog (l:=fl) HSZ.out (HDW19.out) ((SV.setbox HS8.out G28.out (by decide) _ _ _ _).mono (by omega)),below_box (by omega) (HB3.out.trans (HB8.out.mono (by omega))) _ _ _ _⟩
theorem tog_sub3 (w0 w:World) (ss:List ByteArray) (t:ByteArray) (a:Option Addr) (l c:Nat) (hx:RS 1 Sv w a l c ((⟨5,0,ByteArray.empty,ss⟩:Vl):Vl).ss) (b:Option Addr) (m d:Nat) (hy:RS 1 Sv w b m d ((⟨3,0,t,[]⟩:Vl):Vl).ss) (hxz:a=none→c=0) (hyz:b=none→d=0) (hs:(∀ z ∈ ss,z.size≤1024)∧ss.length≤64) (ht:t.size≤1024) (hdw:doubleW 19 (⟨5,0,ByteArray.empty,ss⟩:Vl) (⟨3,0,t,[]⟩:Vl)=setsW 19 ss [t]) :
 Calls Tryz.prog 76 #[.int .i64 19,VA (⟨5,0,ByteArray.empty,ss⟩:Vl) a l c,VA (⟨3,0,t,[]⟩:Vl) b m d] w fun e w'=>TogOut w0 w e w' (doubleW 19 (⟨5,0,ByteArray.empty,ss⟩:Vl) (⟨3,0,t,[]⟩:Vl))∧Below w.heap.size w w':=by
 obtain ⟨w3,hw3,g0,g1,g2,hb3,z3⟩:=boxes3 w (boxS (⟨5,0,ByteArray.empty,ss⟩:Vl) a l c) (boxS (⟨3,0,t,[]⟩:Vl) b m d) boxZ
 have HX:=Lib.hid (hx.below hb3)
 have HY:=Lib.hid (hy.below hb3)
 have HXW:=Lib.hid hx
 have HYW:=Lib.hid hy
 have hl:=hx.1
 have hm:=hy.1
 have HB3:=Lib.hid hb3
 have G0:=Lib.hid g0
 have G1:=Lib.hid g1
 have G2:=Lib.hid (show w3.heap[w.heap.size+1+1]?=some boxZ from g2)
 have z30:w.heap.size < w3.heap.size:=by omega
 have z31:w.heap.size+1 < w3.heap.size:=by omega
 have z32:w.heap.size+1+1 < w3.heap.size:=by omega
 obtain ⟨c0,c1,c2,c3,-⟩:=box4 g0
 obtain ⟨d0,d1,d2,d3,-⟩:=box4 g1
 clear hx hy g0 g1 g2 hb3
 have hm0:m=0:=by rw [← hm];rfl
 subst hm0
 have HLX:=Lib.hid hl
 have HLY:=Lib.hid hm
 have HXZ:=Lib.hid hxz
 have HYZ:=Lib.hid hyz
 have HS:=Lib.hid hs
 have HT:=Lib.hid ht
 have HDW:=Lib.hid hdw
 have hl64:l≤64:=by rw [← hl];exact hs.2
 have HLIT:=Lib.hid (World.ownsRow_lit (w:=w3) (base:=w3.heap.size) (e:=9) (size:=1) #[] 0 (Nat.le_refl _) (by simp [maxLen]) rfl)
 have HSRC:=Lib.hid (src_cells Sv_len (by decide) (HY.out.below (bel1 w3 (.cells #[] 9))) hyz)
 have HTL:=Lib.hid (fun z hz=>by rw [List.mem_singleton.1 hz];exact ht:∀ z ∈ [t],z.size≤1024)
 have HDW19:=Lib.hid (show doubleW 19 (⟨5,0,ByteArray.empty,ss⟩:Vl) (⟨3,0,t,[]⟩:Vl)=membersW (ss.filter fun z=>!inSS [t] z) by rw [hdw];rfl)
 clear hl hm hxz hyz hs ht hdw z3
 go_enter Tryz.func76,Tryz.ntmps76
 go_upto_region 1 with (fail)
 rw [← hw3]
 clear hw3
 go_upto_region 12 with (at_builtin;(refine L_appendE rfl _ _ _ rfl sl45 w3.heap.size (some ⟨w3.heap.size,0,none⟩) 0 0 [] rfl HLIT.out b 0 d (([]:List ByteArray).flatMap Sv) rfl HSRC.out (by simp) one_strs (by omega) (by simp [maxLen]) (by simp) (fun a5 c5 w5 ho5 hg5=>?_);rw [List.nil_append,Nat.zero_add] at ho5;(try rw [Nat.zero_add]);have HO5:=Lib.hid ho5;have HB5:=Lib.hid (show Below w3.heap.size w3 w5 from (bel1 w3 (.cells #[] 9)).grown hg5 (by simp) (fun k hk=>by cases hk;exact Nat.le_refl _));clear ho5 hg5))
 have G05:=Lib.hid ((HB5.out.block _ z30).trans G0.out)
 have G15:=Lib.hid ((HB5.out.block _ z31).trans G1.out)
 clear c0 c1 c2 c3 d0 d1 d2 d3
 obtain ⟨c0,c1,c2,c3,-⟩:=box4 G05.out
 obtain ⟨d0,d1,d2,d3,-⟩:=box4 G15.out
 go_upto_region 14 with (at_builtin;(refine L_appendN rfl _ _ _ rfl sl45 w3.heap.size (.slice a5 0 c5) 0 _ rfl (own_below HO5.out (bel1 _ (.cells #[.string t] 9))) _ 1 1 (Sv t) rfl rfl (new_str _ t) (by simp [Sv,Value.oneCell']) (by omega) (by simp [maxLen]) (by have:=HB5.out.size;simp;omega) (fun a6 c6 w6 ho6 hg6 hat6=>?_);have HO6:=Lib.hid (show w6.ownsRow w3.heap.size 9 1 (.slice a6 1 c6) 1 ([t].flatMap Sv) by simpa using ho6);have HB6:=Lib.hid ((HB5.out.alloc (by have:=HB5.out.size;omega) (.cells #[.string t] 9)).grown hg6 (by have:=HB5.out.size;simp;omega) (fun z hz=>(HO5.out.lt z hz).1));clear ho6 hg6 hat6))
 (try simp only [Nat.zero_add])
 have G0X:=Lib.hid ((HB6.out.block _ z30).trans G0.out)
 clear c0 c1 c2 c3 d0 d1 d2 d3
 obtain ⟨c0,c1,c2,c3,-⟩:=box4 G0X.out
 have d0:True:=trivial
 have d1:True:=trivial
 have d2:True:=trivial
 have d3:True:=trivial
 have HRM:=Lib.hid (show RS 1 Sv w6 a6 (1) c6 [t] from RS.of_owns HO6.out (by decide) Sv_len (by omega))
 have HFL:=Lib.hid (fun k=>Nat.le_trans (List.length_filter_le _ _) (by have:=HLX.out;simp at this ⊢;omega):∀ k,((ss.take k).filter fun z=>!inSS [t] z).length≤l)
 have HSZ:=Lib.hid (fun z hz=>HS.out.1 z (List.mem_filter.1 hz).1:∀ z ∈ (ss.filter fun z=>!inSS [t] z),z.size≤1024)
 clear c0 c1 c2 c3 d0 d1 d2 d3
 obtain ⟨c0,c1,c2,c3,-⟩:=box4 G0X.out
 clear c0 c1 c2
 go_wp2_with fail
 clear c3
 go_loopw [12,13] (fun v i wr=>∃ (k:Nat) (va:Option Addr) (vc:Nat),k≤l∧i=.int .i64 k∧v=.slice va ((ss.take k).filter fun z=>!inSS [t] z).length vc∧wr.ownsRow w6.heap.size 9 1 (.slice va ((ss.take k).filter fun z=>!inSS [t] z).length vc) ((ss.take k).filter fun z=>!inSS [t] z).length (((ss.take k).filter fun z=>!inSS [t] z).flatMap Sv)∧Below w6.heap.size w6 wr) (fun _ i _=>l - (intOf i).toNat)
 case atStart=>exact ⟨0,none,0,by omega,rfl,rfl,World.ownsRow_nil _ _ _ _,Below.refl _ _⟩
 case round =>
  obtain ⟨k,va,vc,hk,rfl,rfl,ho,hb⟩:=hrel
  have HO:=Lib.hid ho
  have HBR:=Lib.hid hb
  have HBR3:=Lib.hid (HB6.out.trans (hb.mono HB6.out.size))
  have HFK:=Lib.hid (HFL.out k)
  have hfk:=HFK.out
  have G0R:=Lib.hid ((HBR3.out.block _ z30).trans G0.out)
  obtain ⟨c0,c1,c2,c3,-⟩:=box4 G0R.out
  clear ho hb c0 c1 c2
  by_cases hlt:k < l
  · have hltI:(k:Int) < (l:Int):=by omega
    obtain ⟨nb,no,x,he,hy,-⟩:=(HX.out.below HBR3.out).at hlt
    have HXR:=HX.out.below HBR3.out
    rw [he] at HXR c3
    have n0:wr.cell? ⟨nb,no+k,none⟩=some (.string x):=by have:=RS.atR HXR hy 0 _ rfl;simpa using this
    have hnb:=block_lt_of_cell n0
    clear HXR he
    cases hin:inSS [t] x
    · have HTK:=Lib.hid (show ((ss.take (k+1)).filter fun z=>!inSS [t] z)=((ss.take k).filter fun z=>!inSS [t] z)++[x] by rw [List.take_add_one,hy,List.filter_append];simp [hin])
      clear hy
      have HIN:=Lib.hid hin
      generalize ((ss.take k).filter fun z=>!inSS [t] z)=fl at *
      go_wp2_with (first | (go_at_call 61;refine (in_any wr a6 (1) c6 [t] (HRM.out.below HBR.out) x).mono ?_;rintro e w' ⟨rfl,hw⟩;obtain rfl:=hw.symm;rw [HIN.out]) | (at_builtin;(refine L_appendN rfl _ _ _ rfl sl45 w6.heap.size (.slice va fl.length vc) fl.length _ rfl (own_below HO.out (bel1 _ (.cells #[.string x] 9))) _ 1 1 (Sv x) rfl rfl (new_str _ x) (by simp [Sv,Value.oneCell']) (by omega) (by simp [maxLen];omega) (by have:=HBR.out.size;simp;omega) (fun a6 c6 w6 ho6 hg6 hat6=>?_);have HO6:=Lib.hid ho6;have HB6:=Lib.hid ((HBR.out.alloc (by have:=HBR.out.size;omega) (.cells #[.string x] 9)).grown hg6 (by have:=HBR.out.size;simp;omega) (fun z hz=>(HO.out.lt z hz).1));clear ho6 hg6 hat6)))
      go_roundw
      case rel=>exact ⟨k+1,a6,c6,by omega,by go_num,by rw [HTK.out];simp,by rw [HTK.out,List.flatMap_append,List.length_append];exact HO6.out,HB6.out⟩
      case measure=>simp [intOf];omega
    · have HTK:=Lib.hid (show ((ss.take (k+1)).filter fun z=>!inSS [t] z)=((ss.take k).filter fun z=>!inSS [t] z) by rw [List.take_add_one,hy,List.filter_append];simp [hin])
      clear hy
      have HIN:=Lib.hid hin
      generalize ((ss.take k).filter fun z=>!inSS [t] z)=fl at *
      go_wp2_with (go_at_call 61;refine (in_any wr a6 (1) c6 [t] (HRM.out.below HBR.out) x).mono ?_;rintro e w' ⟨rfl,hw⟩;obtain rfl:=hw.symm;rw [HIN.out])
      go_roundw
      case rel=>exact ⟨k+1,va,vc,by omega,by go_num,by rw [HTK.out],by rw [HTK.out];exact HO.out,HBR.out⟩
      case measure=>simp [intOf];omega
  · have hltI:¬ (k:Int) < (l:Int):=by omega
    have HRF:=Lib.hid (show RS 1 Sv wr va (ss.filter fun z=>!inSS [t] z).length vc (ss.filter fun z=>!inSS [t] z) by
     have h:=HO.out
     rw [List.take_of_length_le (by have:=HLX.out;(try simp at this);omega)] at h
     exact RS.of_owns h (by decide) Sv_len (by have:=HFK.out;rw [List.take_of_length_le (by have:=HLX.out;(try simp at this);omega)] at this;omega))
    have HFN:=Lib.hid (show (ss.filter fun z=>!inSS [t] z).length≤l by have:=HFK.out;rwa [List.take_of_length_le (by have:=HLX.out;(try simp at this);omega)] at this)
    have hfn:=HFN.out
    have HTKL:=Lib.hid (show ((ss.take k).filter fun z=>!inSS [t] z)=(ss.filter fun z=>!inSS [t] z) by rw [List.take_of_length_le (by have:=HLX.out;(try simp at this);omega)])
    rw [HTKL.out]
    clear HO HFK hfk
    generalize (ss.filter fun z=>!inSS [t] z)=fl at *
    go_wp2_with (go_at_call 74;refine (refset_any wr va (fl.length) vc (fl) HRF.out (by omega)).mono ?_;rintro e w8 ⟨⟨v8,rfl,hs8⟩,hb8⟩;have HS8:=Lib.hid (hs8.mono (show w3.heap.size≤wr.heap.size from HBR3.out.size));have HB8:=Lib.hid (HBR3.out.trans (hb8.mono HBR3.out.size));clear hb8;obtain ⟨a8,n8,c8,rfl,-⟩:=id hs8;clear hs8;have G28:=Lib.hid ((HB8.out.block _ z32).trans G2.out);obtain ⟨r0,r1,r2,r3,f0,f1,f2,f3⟩:=box4 G28.out)
    refine bodyPost_ret (res2c Tryz.results76 _ _ (w.heap.size+1+1) _ _ _ _ _ (heap_box G28.out _ _ _ _) rfl rfl) rfl ?_
    exact ⟨set_tog (l:=fl) HSZ.out (HDW19.out) ((SV.setbox HS8.out G28.out (by decide) _ _ _ _).mono (by omega)),below_box (by omega) (HB3.out.trans (HB8.out.mono (by omega))) _ _ _ _⟩
end Go.Proofs.YtcnckjlmldnblaaGreatDoor
