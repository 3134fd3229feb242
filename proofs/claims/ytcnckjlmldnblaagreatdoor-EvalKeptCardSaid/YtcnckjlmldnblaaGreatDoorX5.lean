import Derived.Test.YtcnckjlmldnblaaGreatDoorB1
import Derived.Test.YtcnckjlmldnblaaGreatDoorE43
import Derived.Test.YtcnckjlmldnblaaGreatDoorE55
import Derived.Test.YtcnckjlmldnblaaGreatDoorX1
namespace Go.Proofs.YtcnckjlmldnblaaGreatDoor
open Go Go.RowKit
set_option maxRecDepth 100000
set_option maxHeartbeats 4000000
set_option linter.unusedVariables false
set_option linter.unusedSimpArgs false
theorem sl42:Sl Tryz.prog 54 3 (.int .i64 0) 1 8:=⟨by kernel_rfl,by kernel_rfl,rfl,by decide⟩
theorem same_I (w:World) (a:Option Addr) (n c:Nat) (xs:List (Int)) (hx:RS 1 Iv w a n c xs) (b:Option Addr) (d:Nat) (hy:RS 1 Iv w b n d xs) :
 Calls Tryz.prog 65 #[.slice a n c,.slice b n d] w fun e w'=>e=.returned (.bool true)∧Below w.heap.size w w':=by
 have hlx:=hx.1
 have hn48:=hx.2.2.1
 have HX:=Lib.hid hx
 have HY:=Lib.hid hy
 clear hx hy
 go_enter Tryz.func65,Tryz.ntmps65
 go_wp2_with fail
 go_loopw [5] (fun i wr=>∃ k:Nat,k≤n∧i=.int .i64 k∧Below w.heap.size w wr) (fun i _=>n - (intOf i).toNat)
 case atStart=>exact ⟨0,by omega,rfl,Below.refl _ _⟩
 case round =>
  obtain ⟨k,hk,rfl,hb⟩:=hrel
  have HB:=Lib.hid hb
  clear hb
  by_cases hlt:k < n
  · obtain ⟨xa,xo,x,rfl,hx,hcx⟩:=HX.out.at hlt
    obtain ⟨ya,yo,y,rfl,hy,hcy⟩:=HY.out.at hlt
    obtain rfl:x=y:=Option.some.inj (hx.symm.trans hy)
    have x0:=(HB.out.cell (p:=⟨xa,xo+k * 1+0,none⟩) (block_lt_of_cell (hcx 0 _ rfl))).trans (hcx 0 _ rfl)
    have y0:=(HB.out.cell (p:=⟨ya,yo+k * 1+0,none⟩) (block_lt_of_cell (hcy 0 _ rfl))).trans (hcy 0 _ rfl)
    simp only [Nat.add_zero,Nat.mul_one] at x0 y0
    have hltI:(k:Int) < (n:Int):=by omega
    clear hx hy hcx hcy
    go_wp2
    go_region
    go_wp2
    go_roundw
    case rel=>exact ⟨k+1,by omega,by go_num,HB.out.drew⟩
    case measure=>simp [intOf];omega
  · have hltI:¬ (k:Int) < (n:Int):=by omega
    go_wp2
    go_ret
    exact ⟨rfl,HB.out⟩
theorem roomy_I (w:World) (a:Option Addr) (n c:Nat) (l:List (Int)) (m:Int) (h:RS 1 Iv w a n c l) (hn:n≤1000000) :
 Calls Tryz.prog 40 #[.slice a n c,.int .i64 m] w fun e w'=>∃ g,e=.returned (.slice (some ⟨g,0,none⟩) (n+80) (n+80)) ∧
  w'.ownsRow w.heap.size 3 1 (.slice (some ⟨g,0,none⟩) (n+80) (n+80)) (n+80) ((l++List.replicate 80 m).flatMap Iv)∧Below w.heap.size w w':=by
 have hl:=Lib.hid h.1
 obtain ⟨B,hB⟩:∃ B,B=w.heap.size:=⟨_,rfl⟩
 have HB:=Lib.hid hB
 have hbb:Below B w w:=Below.refl _ _
 have hBle:B≤w.heap.size:=by omega
 have HR:=Lib.hid h
 clear hB h
 go_enter Tryz.func40,Tryz.ntmps40
 go_wp2_with (first
  | (at_make;refine L_make rfl _ _ _ rfl sl42 B .i64 .i64 _ (n+80) rfl rfl (by omega) (by omega) (by simp [maxLen];omega) (by omega) (fun w1 ho1 hg1=>?_)
     rw [← HB.out] at ho1 ⊢)
  | (refine L_copyN rfl _ _ _ rfl sl42 B B (n+80) (n+80) _ rfl ho1 Iv_len (fun x v hv=>by simp [Iv] at hv;subst hv;rfl) _ _ _ _ rfl (HR.out.below (Below.mono (hbb.grown hg1 (by have:=HB.out;omega) (by intro k hk;cases hk)) (by have:=HB.out;omega))) (by omega) (fun w2 ho2 hg2=>?_)))
 have hb1:=hbb.grown hg1 (by omega) (by intro k hk;cases hk)
 have hb2:=hb1.grown hg2 (by have:=HB.out;have:=hb1.size;omega) (by intro k hk;cases hk;omega)
 have ho3:w2.ownsRow B 3 1 (.slice (some ⟨B,0,none⟩) (n+80) (n+80)) (n+80) ((l++List.replicate (n - n) m++List.replicate (n+80-n) (0:Int)).flatMap Iv):=by
  have e1:=madeFlat Iv 1 (by decide) Iv_len (0:Int) (n+80)
  have e2:(madeCells (Value.cells (Value.int IntKind.i64 0)) ((n+80) * 1)).toList=(List.replicate (n+80) (0:Int)).flatMap Iv:=e1
  rw [e2] at ho2
  have e3:((List.replicate (n+80) (0:Int)).flatMap Iv).drop (n * 1)=(List.replicate (n+80 - n) (0:Int)).flatMap Iv:=by
   exact dropRep _ _ Iv_len _ n
  rw [e3] at ho2
  simpa using ho2
 clear hb1 ho1 hg2 hg1 ho2
 go_loopw [6] (fun i wr=>∃ k:Nat,n≤k∧k≤n+80∧i=.int .i64 k∧Below B w wr∧wr.ownsRow B 3 1 (.slice (some ⟨B,0,none⟩) (n+80) (n+80)) (n+80) ((l++List.replicate (k-n) m++List.replicate (n+80-k) (0:Int)).flatMap Iv)) (fun i _=>n+80 - (intOf i).toNat)
 case atStart=>exact ⟨n,by omega,by omega,rfl,hb2,ho3⟩
 case round =>
  obtain ⟨k,hk1,hk2,rfl,hb,ho⟩:=hrel
  by_cases hlt:k < n+80
  · have hz:=fill_at (0:Int) l n k m hl.out hk1 hlt
    have c0:=own_at Iv_len ho hz 0 _ rfl
    have f0:=ho.frozenAt (k)
    simp only [Nat.add_zero,Nat.mul_one] at c0
    have ho':=Lib.hid (own_chain (Iv m) _ wr (k * 1) ho).1
    rw [setList_flat Iv 1 Iv_len _ k m (List.getElem?_eq_some_iff.1 hz).1,fill_step (0:Int) l n k m hl.out hk1 hlt] at ho'
    have hb':=Lib.hid (hb.setCell (p:=⟨B,k,none⟩) (by simp) (.int .i64 m))
    clear ho hb hb2 ho3 hz
    go_wp2
    go_roundw
    case rel=>exact ⟨k+1,by omega,by omega,by go_num,hb'.out,by have:=ho'.out;simpa [setChain,Iv] using this⟩
    case measure=>simp [intOf];omega
  · obtain rfl:k=n+80:=by omega
    have HO:=Lib.hid ho
    have HBB:=Lib.hid hb
    rw [HB.out] at HO HBB
    clear ho hb hb2 ho3
    rw [HB.out]
    go_wp2
    go_ret
    exact ⟨_,rfl,by simpa using HO.out,HBB.out⟩
theorem intact_I (w:World) (a:Option Addr) (n c:Nat) (l:List (Int)) (m:Int) (h1:RS 1 Iv w a (n+80) c (l++List.replicate 80 m)) (b:Option Addr) (d:Nat) (h2:RS 1 Iv w b n d l) (hn:n≤1000000) :
 Calls Tryz.prog 45 #[.slice a (n+80) c,.slice b n d,.int .i64 m] w fun e w'=>e=.returned (.bool true)∧Below w.heap.size w w':=by
 have hl:=h2.1
 have hc1:=h1.2.1
 have h3:RS 1 Iv w a n c l:=by have:=h1.cut;rwa [hl] at this
 have HL:=Lib.hid hl
 have hc2:n≤c:=by omega
 have H1:=Lib.hid h1
 have HS:=Lib.hid (same_I w a n c l h3 b d h2)
 clear h1 h2 h3 hl
 go_enter Tryz.func45,Tryz.ntmps45
 go_wp2_with (go_at_call 65;refine HS.out.mono ?_;rintro e w1 ⟨rfl,hb1⟩)
 have HB1:=Lib.hid hb1
 clear hb1
 go_loopw [7] (fun i wr=>∃ k:Nat,n≤k∧k≤n+80∧i=.int .i64 k∧Below w.heap.size w wr) (fun i _=>n+80 - (intOf i).toNat)
 case atStart=>exact ⟨n,by omega,by omega,rfl,HB1.out⟩
 case round =>
  obtain ⟨k,hk1,hk2,rfl,hb⟩:=hrel
  have HB:=Lib.hid hb
  clear hb
  by_cases hlt:k < n+80
  · obtain ⟨xa,xo,x,rfl,hx,hcx⟩:=H1.out.at hlt
    obtain rfl:x=m:=by
     rw [List.getElem?_append_right (by rw [HL.out];omega),List.getElem?_replicate,if_pos (by rw [HL.out];omega)] at hx
     exact (Option.some.inj hx).symm
    have x0:=(HB.out.cell (p:=⟨xa,xo+k * 1+0,none⟩) (block_lt_of_cell (hcx 0 _ rfl))).trans (hcx 0 _ rfl)
    simp only [Nat.add_zero,Nat.mul_one] at x0
    have hltI:(k:Int) < (n:Int)+80:=by omega
    clear hx hcx
    go_wp2
    go_roundw
    case rel=>exact ⟨k+1,by omega,by omega,by go_num,HB.out⟩
    case measure=>simp [intOf];omega
  · have hltI:¬ (k:Int) < (n:Int)+80:=by omega
    go_wp2
    go_ret
    exact ⟨rfl,HB.out⟩
theorem two_new (w:World) (X Y:Array Value) (t:TypeId):∃ w2,w2=(w.alloc (.cells X t)).alloc (.cells Y t)∧w2.heap[w.heap.size]?=some (.cells X t (0,0))∧w2.heap[w.heap.size+1]?=some (.cells Y t (0,0))∧Below w.heap.size w w2∧w.heap.size+1 < w2.heap.size:=by
 refine ⟨_,rfl,?_,?_,((Below.refl _ _).alloc (Nat.le_refl _) _).alloc (by simp) _,by simp⟩
 · rw [Below.heap_alloc _ _ _ (by simp)];exact heap_alloc_new w _
 · have:=heap_alloc_new (w.alloc (.cells X t)) (.cells Y t)
   rwa [World.size_alloc] at this
theorem samevalue_any (w:World) (vk vn:Int) (vt:ByteArray) (sl:Nat) (ss:List ByteArray) (sa:Option Addr) (sc:Nat) (h1:RS 1 Sv w sa sl sc ss) (sb:Option Addr) (sd:Nat) (h2:RS 1 Sv w sb sl sd ss) :
 Calls Tryz.prog 64 #[.agg #[.int .i64 vk,.int .i64 vn,.string vt,.slice sa sl sc],.agg #[.int .i64 vk,.int .i64 vn,.string vt,.slice sb sl sd]] w fun e w'=>e=.returned (.bool true)∧Below w.heap.size w w':=by
 obtain ⟨w2,hw2,g0,g1,hb,hz⟩:=two_new w #[.int .i64 vk,.int .i64 vn,.string vt,.slice sa sl sc] #[.int .i64 vk,.int .i64 vn,.string vt,.slice sb sl sd] 43
 have HW:=Lib.hid hw2.symm
 have H1:=Lib.hid (h1.below hb)
 have H2:=Lib.hid (h2.below hb)
 have HB:=Lib.hid hb
 have a0:=cell_of_row w2 _ 0 _ _ _ g0
 have a1:=cell_of_row w2 _ 1 _ _ _ g0
 have a2:=cell_of_row w2 _ 2 _ _ _ g0
 have a3:=cell_of_row w2 _ 3 _ _ _ g0
 have b0:=cell_of_row w2 _ 0 _ _ _ g1
 have b1:=cell_of_row w2 _ 1 _ _ _ g1
 have b2:=cell_of_row w2 _ 2 _ _ _ g1
 have b3:=cell_of_row w2 _ 3 _ _ _ g1
 simp only [List.getElem?_toArray,List.getElem?_cons_zero,List.getElem?_cons_succ] at a0 a1 a2 a3 b0 b1 b2 b3
 clear hw2 g0 g1 hb h1 h2
 go_enter Tryz.func64,Tryz.ntmps64
 go_upto_region 1 with (fail)
 rw [HW.out]
 go_wp2_with (go_at_call 30;refine (same_S w2 sa sl sc ss H1.out sb sd H2.out).mono ?_;rintro e w3 ⟨rfl,hb3⟩)
 go_ret
 exact ⟨rfl,HB.out.trans (hb3.mono (by omega))⟩
/-- Two nodes with the same parts, wherever their lists lie. -/
def SameNd (w:World) (u nd:Nd):Prop:=u.op=nd.op∧u.nm=nd.nm∧u.vk=nd.vk∧u.vn=nd.vn∧u.vt=nd.vt∧u.sl=nd.sl∧u.kl=nd.kl∧u.ks=nd.ks∧RS 1 Iv w u.ka u.kl u.kc u.ks∧RS 1 Iv w nd.ka nd.kl nd.kc nd.ks ∧
 ∃ ss,RS 1 Sv w u.sa u.sl u.sc ss∧RS 1 Sv w nd.sa nd.sl nd.sc ss
theorem SameNd.below {w w':World} {u nd:Nd} (h:SameNd w u nd) (hb:Below w.heap.size w w'):SameNd w' u nd:=by
 obtain ⟨h1,h2,h3,h4,h5,h6,h7,h8,h9,h10,ss,h11,h12⟩:=h
 exact ⟨h1,h2,h3,h4,h5,h6,h7,h8,h9.below hb,h10.below hb,ss,h11.below hb,h12.below hb⟩
theorem samenode_any (w:World) (op:Int) (nm:ByteArray) (vk vn:Int) (vt:ByteArray) (sl kl:Nat) (ss:List ByteArray) (ks:List Int) (sa:Option Addr) (sc:Nat) (h1:RS 1 Sv w sa sl sc ss) (ka:Option Addr) (kc:Nat) (k1:RS 1 Iv w ka kl kc ks)
 (sb:Option Addr) (sd:Nat) (h2:RS 1 Sv w sb sl sd ss) (kb:Option Addr) (kd:Nat) (k2:RS 1 Iv w kb kl kd ks) :
 Calls Tryz.prog 44 #[.agg #[.int .i64 op,.string nm,.int .i64 vk,.int .i64 vn,.string vt,.slice sa sl sc,.slice ka kl kc],.agg #[.int .i64 op,.string nm,.int .i64 vk,.int .i64 vn,.string vt,.slice sb sl sd,.slice kb kl kd]] w fun e w'=>e=.returned (.bool true)∧Below w.heap.size w w':=by
 obtain ⟨w2,hw2,g0,g1,hb,hz⟩:=two_new w #[.int .i64 op,.string nm,.int .i64 vk,.int .i64 vn,.string vt,.slice sa sl sc,.slice ka kl kc] #[.int .i64 op,.string nm,.int .i64 vk,.int .i64 vn,.string vt,.slice sb sl sd,.slice kb kl kd] 56
 have HW:=Lib.hid hw2.symm
 have H1:=Lib.hid (h1.below hb)
 have H2:=Lib.hid (h2.below hb)
 have K1:=Lib.hid (k1.below hb)
 have K2:=Lib.hid (k2.below hb)
 have HB:=Lib.hid hb
 have a0:=cell_of_row w2 _ 0 _ _ _ g0
 have a1:=cell_of_row w2 _ 1 _ _ _ g0
 have a2:=cell_of_row w2 _ 2 _ _ _ g0
 have a3:=cell_of_row w2 _ 3 _ _ _ g0
 have a4:=cell_of_row w2 _ 4 _ _ _ g0
 have a5:=cell_of_row w2 _ 5 _ _ _ g0
 have a6:=cell_of_row w2 _ 6 _ _ _ g0
 have b0:=cell_of_row w2 _ 0 _ _ _ g1
 have b1:=cell_of_row w2 _ 1 _ _ _ g1
 have b2:=cell_of_row w2 _ 2 _ _ _ g1
 have b3:=cell_of_row w2 _ 3 _ _ _ g1
 have b4:=cell_of_row w2 _ 4 _ _ _ g1
 have b5:=cell_of_row w2 _ 5 _ _ _ g1
 have b6:=cell_of_row w2 _ 6 _ _ _ g1
 simp only [List.getElem?_toArray,List.getElem?_cons_zero,List.getElem?_cons_succ] at a0 a1 a2 a3 a4 a5 a6 b0 b1 b2 b3 b4 b5 b6
 clear hw2 g0 g1 hb h1 h2 k1 k2
 go_enter Tryz.func44,Tryz.ntmps44
 go_upto_region 1 with (fail)
 rw [HW.out]
 go_wp2_with (first
  | (go_at_call 64;refine (samevalue_any w2 vk vn vt sl ss sa sc H1.out sb sd H2.out).mono ?_;rintro e w3 ⟨rfl,hb3⟩;have a6':=keepb hb3 a6;have b6':=keepb hb3 b6)
  | (go_at_call 65;refine (same_I w3 ka kl kc ks (K1.out.below hb3) kb kd (K2.out.below hb3)).mono ?_;rintro e w4 ⟨rfl,hb4⟩))
 go_ret
 exact ⟨rfl,HB.out.trans ((hb3.trans (hb4.mono hb3.size)).mono (by omega))⟩
theorem samenode_any' (w:World) (u nd:Nd) (h:SameNd w u nd):Calls Tryz.prog 44 #[.agg #[.int .i64 u.op,.string u.nm,.int .i64 u.vk,.int .i64 u.vn,.string u.vt,.slice u.sa u.sl u.sc,.slice u.ka u.kl u.kc],.agg #[.int .i64 nd.op,.string nd.nm,.int .i64 nd.vk,.int .i64 nd.vn,.string nd.vt,.slice nd.sa nd.sl nd.sc,.slice nd.ka nd.kl nd.kc]] w fun e w'=>e=.returned (.bool true)∧Below w.heap.size w w':=by
 obtain ⟨op,nm,vk,vn,vt,sa,sl,sc,ka,kl,kc,ks⟩:=u
 obtain ⟨op',nm',vk',vn',vt',sb,sl',sd,kb,kl',kd,ks'⟩:=nd
 obtain ⟨h1,h2,h3,h4,h5,h6,h7,h8,h9,h10,ss,h11,h12⟩:=h
 dsimp only at h1 h2 h3 h4 h5 h6 h7 h8 h9 h10 h11 h12
 subst h1 h2 h3 h4 h5 h6 h7 h8
 exact samenode_any w op nm vk vn vt sl kl ss ks sa sc h11 ka kc h9 sb sd h12 kb kd h10
def markNd:Nd:=⟨-77,ByteArray.empty,0,0,ByteArray.empty,none,0,0,none,0,0,[]⟩
theorem nodemark_any (w:World):Calls Tryz.prog 39 #[] w fun e w'=>e=.returned (.agg #[.int .i64 (-77),.string ByteArray.empty,.int .i64 0,.int .i64 0,.string ByteArray.empty,.slice none 0 0,.slice none 0 0])∧Below w.heap.size w w':=by
 go_enter Tryz.func39,Tryz.ntmps39
 go_wp2
 refine bodyPost_ret (v:=.agg #[.int .i64 (-77),.string ByteArray.empty,.int .i64 0,.int .i64 0,.string ByteArray.empty,.slice none 0 0,.slice none 0 0]) (by simp [results,Tryz.results39,go_sem];rfl) rfl ⟨rfl,?_⟩
 exact (Below.refl _ _).alloc (Nat.le_refl _) _
theorem alikeN_any (w:World) (a:Option Addr) (n c:Nat) (us:List Nd) (hx:RS 7 Nd.cs w a n c us) (b:Option Addr) (d:Nat) (ns:List Nd) (hy:RS 7 Nd.cs w b n d ns) (hs:∀ (i:Nat) (u nd:Nd),us[i]?=some u→ns[i]?=some nd→SameNd w u nd) :
 Calls Tryz.prog 43 #[.slice a n c,.slice b n d,.func (.func 44) #[] #[]] w fun e w'=>e=.returned (.bool true)∧Below w.heap.size w w':=by
 have hn48:=hx.2.2.1
 have HX:=Lib.hid hx
 have HY:=Lib.hid hy
 have HS:=Lib.hid hs
 clear hx hy hs
 go_enter Tryz.func43,Tryz.ntmps43
 go_wp2_with fail
 go_loopw [7] (fun i wr=>∃ k:Nat,k≤n∧i=.int .i64 k∧Below w.heap.size w wr) (fun i _=>n - (intOf i).toNat)
 case atStart=>exact ⟨0,by omega,rfl,Below.refl _ _⟩
 case round =>
  obtain ⟨k,hk,rfl,hb⟩:=hrel
  have HB:=Lib.hid hb
  clear hb
  by_cases hlt:k < n
  · obtain ⟨xa,xo,u,rfl,hu,hcx⟩:=HX.out.at hlt
    obtain ⟨ya,yo,nd,rfl,hnd,hcy⟩:=HY.out.at hlt
    have HSN:=Lib.hid ((HS.out k u nd hu hnd).below (HB.out))
    have x0:=(HB.out.cell (p:=⟨xa,xo+k * 7+0,none⟩) (block_lt_of_cell (hcx 0 _ rfl))).trans (hcx 0 _ rfl)
    have x1:=(HB.out.cell (p:=⟨xa,xo+k * 7+1,none⟩) (block_lt_of_cell (hcx 1 _ rfl))).trans (hcx 1 _ rfl)
    have x2:=(HB.out.cell (p:=⟨xa,xo+k * 7+2,none⟩) (block_lt_of_cell (hcx 2 _ rfl))).trans (hcx 2 _ rfl)
    have x3:=(HB.out.cell (p:=⟨xa,xo+k * 7+3,none⟩) (block_lt_of_cell (hcx 3 _ rfl))).trans (hcx 3 _ rfl)
    have x4:=(HB.out.cell (p:=⟨xa,xo+k * 7+4,none⟩) (block_lt_of_cell (hcx 4 _ rfl))).trans (hcx 4 _ rfl)
    have x5:=(HB.out.cell (p:=⟨xa,xo+k * 7+5,none⟩) (block_lt_of_cell (hcx 5 _ rfl))).trans (hcx 5 _ rfl)
    have x6:=(HB.out.cell (p:=⟨xa,xo+k * 7+6,none⟩) (block_lt_of_cell (hcx 6 _ rfl))).trans (hcx 6 _ rfl)
    have y0:=(HB.out.cell (p:=⟨ya,yo+k * 7+0,none⟩) (block_lt_of_cell (hcy 0 _ rfl))).trans (hcy 0 _ rfl)
    have y1:=(HB.out.cell (p:=⟨ya,yo+k * 7+1,none⟩) (block_lt_of_cell (hcy 1 _ rfl))).trans (hcy 1 _ rfl)
    have y2:=(HB.out.cell (p:=⟨ya,yo+k * 7+2,none⟩) (block_lt_of_cell (hcy 2 _ rfl))).trans (hcy 2 _ rfl)
    have y3:=(HB.out.cell (p:=⟨ya,yo+k * 7+3,none⟩) (block_lt_of_cell (hcy 3 _ rfl))).trans (hcy 3 _ rfl)
    have y4:=(HB.out.cell (p:=⟨ya,yo+k * 7+4,none⟩) (block_lt_of_cell (hcy 4 _ rfl))).trans (hcy 4 _ rfl)
    have y5:=(HB.out.cell (p:=⟨ya,yo+k * 7+5,none⟩) (block_lt_of_cell (hcy 5 _ rfl))).trans (hcy 5 _ rfl)
    have y6:=(HB.out.cell (p:=⟨ya,yo+k * 7+6,none⟩) (block_lt_of_cell (hcy 6 _ rfl))).trans (hcy 6 _ rfl)
    simp only [Nat.add_zero] at x0 y0
    have hltI:(k:Int) < (n:Int):=by omega
    clear hcx hcy hu hnd
    go_wp2_with fail
    go_region_held3 (fun w'=>w'.cell? ⟨xa,xo+k * 7,none⟩=some (.int .i64 u.op)∧w'.cell? ⟨xa,xo+k * 7+1,none⟩=some (.string u.nm)∧w'.cell? ⟨xa,xo+k * 7+2,none⟩=some (.int .i64 u.vk)∧w'.cell? ⟨xa,xo+k * 7+3,none⟩=some (.int .i64 u.vn)∧w'.cell? ⟨xa,xo+k * 7+4,none⟩=some (.string u.vt)∧w'.cell? ⟨xa,xo+k * 7+5,none⟩=some (.slice u.sa u.sl u.sc)∧w'.cell? ⟨xa,xo+k * 7+6,none⟩=some (.slice u.ka u.kl u.kc)∧w'.cell? ⟨ya,yo+k * 7,none⟩=some (.int .i64 nd.op)∧w'.cell? ⟨ya,yo+k * 7+1,none⟩=some (.string nd.nm)∧w'.cell? ⟨ya,yo+k * 7+2,none⟩=some (.int .i64 nd.vk)∧w'.cell? ⟨ya,yo+k * 7+3,none⟩=some (.int .i64 nd.vn)∧w'.cell? ⟨ya,yo+k * 7+4,none⟩=some (.string nd.vt)∧w'.cell? ⟨ya,yo+k * 7+5,none⟩=some (.slice nd.sa nd.sl nd.sc)∧w'.cell? ⟨ya,yo+k * 7+6,none⟩=some (.slice nd.ka nd.kl nd.kc))
     (first | exact ⟨x0,x1,x2,x3,x4,x5,x6,y0,y1,y2,y3,y4,y5,y6⟩ | exact ⟨keepb hb2 x0,keepb hb2 x1,keepb hb2 x2,keepb hb2 x3,keepb hb2 x4,keepb hb2 x5,keepb hb2 x6,keepb hb2 y0,keepb hb2 y1,keepb hb2 y2,keepb hb2 y3,keepb hb2 y4,keepb hb2 y5,keepb hb2 y6⟩)
     (first | (go_at_call 44;refine (samenode_any' wr.drew u nd HSN.out).mono ?_;rintro e w2 ⟨rfl,hb2⟩))
    have HB2:=Lib.hid (HB.out.trans ((show Below wr.heap.size wr w2 from (Below.refl _ _).drew.trans hb2).mono HB.out.size))
    clear hb2
    go_wp2
    go_roundw
    case rel=>exact ⟨k+1,by omega,by go_num,HB2.out⟩
    case measure=>simp [intOf];omega
  · have hltI:¬ (k:Int) < (n:Int):=by omega
    go_wp2
    go_ret
    exact ⟨rfl,HB.out⟩
def mkS:ByteArray:={ data:=#[109,97,114,107] }
/-- A node that whole made of another one. -/
def Who (w:World) (B:Nat) (u nd:Nd):Prop:=u.op=nd.op∧u.nm=nd.nm∧u.vk=nd.vk∧u.vn=nd.vn∧u.vt=nd.vt∧u.sl=nd.sl∧u.kl=nd.kl∧u.ks=nd.ks∧u.kc=nd.kl+80∧u.sc=nd.sl+80 ∧
 w.ownsRow B 3 1 (.slice u.ka (nd.kl+80) (nd.kl+80)) (nd.kl+80) ((nd.ks++List.replicate 80 (-77)).flatMap Iv) ∧
 ∃ ss,ss.length=nd.sl∧RS 1 Sv w nd.sa nd.sl nd.sc ss∧w.ownsRow B 9 1 (.slice u.sa (nd.sl+80) (nd.sl+80)) (nd.sl+80) ((ss++List.replicate 80 mkS).flatMap Sv)
theorem Who.below {w w':World} {B:Nat} {u nd:Nd} (h:Who w B u nd) (hb:Below w.heap.size w w'):Who w' B u nd:=by
 obtain ⟨h1,h2,h3,h4,h5,h6,h7,h8,h9,h10,h11,ss,h12,h13,h14⟩:=h
 exact ⟨h1,h2,h3,h4,h5,h6,h7,h8,h9,h10,own_below h11 hb,ss,h12,h13.below hb,own_below h14 hb⟩
/-- The rows of the nodes made so far, the node's own strings read in the first world. -/
def WhoI (w0 w:World) (u nd:Nd):Prop:=u.op=nd.op∧u.nm=nd.nm∧u.vk=nd.vk∧u.vn=nd.vn∧u.vt=nd.vt∧u.sl=nd.sl∧u.kl=nd.kl∧u.ks=nd.ks∧u.kc=nd.kl+80∧u.sc=nd.sl+80 ∧
 w.ownsRow w0.heap.size 3 1 (.slice u.ka (nd.kl+80) (nd.kl+80)) (nd.kl+80) ((nd.ks++List.replicate 80 (-77)).flatMap Iv) ∧
 ∃ ss,ss.length=nd.sl∧RS 1 Sv w0 nd.sa nd.sl nd.sc ss∧w.ownsRow w0.heap.size 9 1 (.slice u.sa (nd.sl+80) (nd.sl+80)) (nd.sl+80) ((ss++List.replicate 80 mkS).flatMap Sv)
theorem WhoI.who {w0 w:World} {u nd:Nd} (h:WhoI w0 w u nd) (hb:Below w0.heap.size w0 w):Who w w0.heap.size u nd:=by
 obtain ⟨h1,h2,h3,h4,h5,h6,h7,h8,h9,h10,h11,ss,h12,h13,h14⟩:=h
 exact ⟨h1,h2,h3,h4,h5,h6,h7,h8,h9,h10,h11,ss,h12,h13.below hb,h14⟩
theorem WhoI.below {w0 w w':World} {u nd:Nd} (h:WhoI w0 w u nd) (hb:Below w.heap.size w w'):WhoI w0 w' u nd:=by
 obtain ⟨h1,h2,h3,h4,h5,h6,h7,h8,h9,h10,h11,ss,h12,h13,h14⟩:=h
 exact ⟨h1,h2,h3,h4,h5,h6,h7,h8,h9,h10,own_below h11 hb,ss,h12,h13,own_below h14 hb⟩
theorem WhoI.grown {w0 w w':World} {u nd:Nd} (h:WhoI w0 w u nd) {B' s' n':Nat} {v':Value} {xs':List Value} (hv:w.ownsRow B' 56 s' v' n' xs') (hg:w.grownBy w' v'.ownBlock):WhoI w0 w' u nd:=by
 obtain ⟨h1,h2,h3,h4,h5,h6,h7,h8,h9,h10,h11,ss,h12,h13,h14⟩:=h
 exact ⟨h1,h2,h3,h4,h5,h6,h7,h8,h9,h10,own_grown h11 hv (by decide) hg,ss,h12,h13,own_grown h14 hv (by decide) hg⟩
def WholeOut (e:Ending) (w w':World) (ns:List Nd) (n:Nat):Prop :=
 ∃ g us,e=.returned (.slice (some ⟨g,0,none⟩) n (n+8))∧us.length=n∧w'.ownsRow w.heap.size 56 7 (.slice (some ⟨g,0,none⟩) (n+8) (n+8)) (n+8) ((us++List.replicate 8 markNd).flatMap Nd.cs) ∧
   ∀ (i:Nat) (u nd:Nd),us[i]?=some u→ns[i]?=some nd→WhoI w w' u nd
def zeroNd:Nd:=⟨0,ByteArray.empty,0,0,ByteArray.empty,none,0,0,none,0,0,[]⟩
theorem fill1 (n k:Nat) (hk:k < n+8):(List.replicate k markNd++List.replicate (n+8 - k) zeroNd).set k markNd=List.replicate (k+1) markNd++List.replicate (n+8 - (k+1)) zeroNd∧(List.replicate k markNd++List.replicate (n+8 - k) zeroNd)[k]?=some zeroNd:=by
 constructor
 · rw [List.set_append_right _ _ (by simp),show k - (List.replicate k markNd).length=0 by simp,show n+8 - k=(n+8 - (k+1))+1 by omega,
    List.replicate_succ,List.set_cons_zero,List.replicate_succ' (n:=k)]
   simp
 · rw [List.getElem?_append_right (by simp),List.getElem?_replicate,if_pos (by simp;omega)]
theorem fill2 (us:List Nd) (n k:Nat) (u:Nd) (hl:us.length=k) (hk:k < n):(us++List.replicate (n+8 - k) markNd).set k u=(us++[u])++List.replicate (n+8 - (k+1)) markNd∧(us++List.replicate (n+8 - k) markNd)[k]?=some markNd:=by
 constructor
 · rw [List.set_append_right _ _ (by omega),show k - us.length=0 by omega,show n+8 - k=(n+8 - (k+1))+1 by omega,List.replicate_succ,List.set_cons_zero]
   simp
 · rw [List.getElem?_append_right (by omega),List.getElem?_replicate,if_pos (by omega)]
theorem whole_any (w:World) (a:Option Addr) (n c:Nat) (ns:List Nd) (hr:RS 7 Nd.cs w a n c ns) (hok:∀ nd ∈ ns,nd.okS w) (hn:n≤5000) (hsm:∀ nd ∈ ns,nd.kl≤20000∧nd.sl≤20000) :
 Calls Tryz.prog 18 #[.slice a n c] w fun e w'=>WholeOut e w w' ns n∧Below w.heap.size w w':=by
 have hlen:=hr.1
 have HR:=Lib.hid hr
 have HOK:=Lib.hid hok
 have HSM:=Lib.hid hsm
 obtain ⟨B,hB⟩:∃ B,B=w.heap.size:=⟨_,rfl⟩
 have HB:=Lib.hid hB
 have hn48:n≤281474976710656:=hr.2.2.1
 clear hr hok hsm hB
 go_enter Tryz.func18,Tryz.ntmps18
 go_wp2_with (first
  | (at_make;refine L_make rfl _ _ _ rfl sl48 B .i64 .i64 _ (n+8) rfl rfl (by omega) (by omega) (by simp [maxLen];omega) (by have:=HB.out;omega) (fun w1 ho1 hg1=>?_)
     rw [← HB.out] at ho1 ⊢))
 have hb1:Below B w w1:=(Below.refl _ _).grown hg1 (by have:=HB.out;omega) (by intro k hk;cases hk)
 have ho3:w1.ownsRow B 56 7 (.slice (some ⟨B,0,none⟩) (n+8) (n+8)) (n+8) ((List.replicate 0 markNd++List.replicate (n+8-0) zeroNd).flatMap Nd.cs):=by
  have e1:=madeFlat Nd.cs 7 (by decide) Nd_len2 zeroNd (n+8)
  have e2:(madeCells (Value.cells (.agg #[.int .i64 0,.string ByteArray.empty,.int .i64 0,.int .i64 0,.string ByteArray.empty,.slice none 0 0,.slice none 0 0])) ((n+8) * 7)).toList=(List.replicate (n+8) zeroNd).flatMap Nd.cs:=e1
  rw [e2] at ho1
  simpa using ho1
 clear hg1 ho1
 go_loopw [4] (fun i wr=>∃ k:Nat,k≤n+8∧i=.int .i64 k∧Below B w wr∧wr.ownsRow B 56 7 (.slice (some ⟨B,0,none⟩) (n+8) (n+8)) (n+8) ((List.replicate k markNd++List.replicate (n+8-k) zeroNd).flatMap Nd.cs)) (fun i _=>n+8 - (intOf i).toNat)
 case atStart=>exact ⟨0,by omega,rfl,hb1,ho3⟩
 case round =>
  obtain ⟨k,hk2,rfl,hb,ho⟩:=hrel
  clear hb1 ho3
  by_cases hlt:k < n+8
  · have HOW:=Lib.hid ho
    have HBW:=Lib.hid hb
    have hltI:(k:Int) < (n:Int)+8:=by omega
    clear ho hb
    go_wp2_with fail
    with_reducible refine (nodemark_any _).mono ?_
    rintro e w2 ⟨rfl,hb2⟩
    have ho:=own_below HOW.out hb2
    have hb:=HBW.out.trans (hb2.mono (by have:=HBW.out.size;have:=HB.out;omega))
    obtain ⟨hf1,hz⟩:=fill1 n k hlt
    have c0:=own_at Nd_len2 ho hz 0 _ rfl
    have f0:=ho.frozenAt (k * 7)
    have c1:=own_at Nd_len2 ho hz 1 _ rfl
    have f1:=ho.frozenAt (k * 7+1)
    have c2:=own_at Nd_len2 ho hz 2 _ rfl
    have f2:=ho.frozenAt (k * 7+2)
    have c3:=own_at Nd_len2 ho hz 3 _ rfl
    have f3:=ho.frozenAt (k * 7+3)
    have c4:=own_at Nd_len2 ho hz 4 _ rfl
    have f4:=ho.frozenAt (k * 7+4)
    have c5:=own_at Nd_len2 ho hz 5 _ rfl
    have f5:=ho.frozenAt (k * 7+5)
    have c6:=own_at Nd_len2 ho hz 6 _ rfl
    have f6:=ho.frozenAt (k * 7+6)
    simp only [Nat.add_zero,zeroNd] at c0 c1 c2 c3 c4 c5 c6
    have hlenk:=(List.getElem?_eq_some_iff.1 hz).1
    have ho':=(own_chain (Nd.cs markNd) _ w2 (k * 7) ho).1
    rw [setList_flat Nd.cs 7 Nd_len2 _ k markNd hlenk,hf1] at ho'
    have HO:=Lib.hid ho'
    have HB':=Lib.hid (below_chain (Nat.le_refl B) (Nd.cs markNd) w2 (k * 7) hb)
    clear ho hb hb2 hz ho' hf1 hlenk
    go_wp2
    go_roundw
    case rel=>exact ⟨k+1,by omega,by go_num,HB'.out,HO.out⟩
    case measure=>simp [intOf];omega
  · have hk8:k=n+8:=by omega
    have HOW:=Lib.hid (show wr.ownsRow B 56 7 (.slice (some ⟨B,0,none⟩) (n+8) (n+8)) (n+8) ((([]:List Nd)++List.replicate (n+8-0) markNd).flatMap Nd.cs) by rw [hk8] at ho;simpa using ho)
    have HBW:=Lib.hid hb
    clear ho hb
    subst hk8
    go_wp2_with fail
    go_loopw [5] (fun i wr=>∃ (k:Nat) (us:List Nd),k≤n∧i=.int .i64 k∧us.length=k∧Below B w wr∧wr.ownsRow B 56 7 (.slice (some ⟨B,0,none⟩) (n+8) (n+8)) (n+8) ((us++List.replicate (n+8-k) markNd).flatMap Nd.cs) ∧
     ∀ (i:Nat) (u nd:Nd),us[i]?=some u→ns[i]?=some nd→WhoI w wr u nd) (fun i _=>n - (intOf i).toNat)
    case atStart=>exact ⟨0,[],by omega,rfl,rfl,HBW.out,HOW.out,fun i u nd h=>by simp at h⟩
    case round =>
     obtain ⟨k,us,hk,rfl,hus,hb,ho,hwho⟩:=hrel
     have HO:=Lib.hid ho
     have HBK:=Lib.hid hb
     have HWH:=Lib.hid hwho
     have HUS:=Lib.hid hus
     clear ho hb hwho hus HOW HBW
     by_cases hlt:k < n
     · have hltI:(k:Int) < (n:Int):=by omega
       obtain ⟨lb,lo,nd,rfl,hnd,hcl⟩:=HR.out.at hlt
       have hBw:Below w.heap.size w wr:=HBK.out.mono (by have:=HB.out;omega)
       have x0:=(hBw.cell (p:=⟨lb,lo+k * 7+0,none⟩) (block_lt_of_cell (hcl 0 _ rfl))).trans (hcl 0 _ rfl)
       have x1:=(hBw.cell (p:=⟨lb,lo+k * 7+1,none⟩) (block_lt_of_cell (hcl 1 _ rfl))).trans (hcl 1 _ rfl)
       have x2:=(hBw.cell (p:=⟨lb,lo+k * 7+2,none⟩) (block_lt_of_cell (hcl 2 _ rfl))).trans (hcl 2 _ rfl)
       have x3:=(hBw.cell (p:=⟨lb,lo+k * 7+3,none⟩) (block_lt_of_cell (hcl 3 _ rfl))).trans (hcl 3 _ rfl)
       have x4:=(hBw.cell (p:=⟨lb,lo+k * 7+4,none⟩) (block_lt_of_cell (hcl 4 _ rfl))).trans (hcl 4 _ rfl)
       have x5:=(hBw.cell (p:=⟨lb,lo+k * 7+5,none⟩) (block_lt_of_cell (hcl 5 _ rfl))).trans (hcl 5 _ rfl)
       have x6:=(hBw.cell (p:=⟨lb,lo+k * 7+6,none⟩) (block_lt_of_cell (hcl 6 _ rfl))).trans (hcl 6 _ rfl)
       simp only [Nat.add_zero] at x0
       obtain ⟨⟨hko,hnm,hvn⟩,ss,hss⟩:=HOK.out nd (List.mem_of_getElem? hnd)
       have hsm:=HSM.out nd (List.mem_of_getElem? hnd)
       have hsm1:nd.kl≤20000:=hsm.1
       have hsm2:nd.sl≤20000:=hsm.2
       have hle1:(nd.kl:Int)≤(nd.kl:Int)+80:=by omega
       have hle2:(nd.sl:Int)≤(nd.sl:Int)+80:=by omega
       have HKO:=Lib.hid hko
       have HSS:=Lib.hid hss
       have HND:=Lib.hid hnd
       have HVN:=Lib.hid hvn
       have hBw2:=Lib.hid hBw
       clear hcl hnd hko hss hsm hvn hBw
       go_wp2_with fail
       obtain ⟨w2,hw2⟩:∃ w2,w2=wr.alloc (.cells #[.int .i64 nd.op,.string nd.nm,.int .i64 nd.vk,.int .i64 nd.vn,.string nd.vt,.slice nd.sa nd.sl nd.sc,.slice nd.ka nd.kl nd.kc] 56):=⟨_,rfl⟩
       have G2:w2.heap[wr.heap.size]?=some (.cells #[.int .i64 nd.op,.string nd.nm,.int .i64 nd.vk,.int .i64 nd.vn,.string nd.vt,.slice nd.sa nd.sl nd.sc,.slice nd.ka nd.kl nd.kc] 56 (0,0)):=by rw [hw2];exact heap_alloc_new _ _
       have hb2:Below wr.heap.size wr w2:=by rw [hw2];exact (Below.refl _ _).alloc (Nat.le_refl _) _
       have hz2:wr.heap.size < w2.heap.size:=by rw [hw2];simp
       rw [← hw2]
       have n6:=cell_of_row w2 _ 6 _ _ _ G2
       have f6:=frozen_of_row w2 _ 6 _ _ G2
       simp only [List.getElem?_toArray,List.getElem?_cons_zero,List.getElem?_cons_succ] at n6
       have K2:=Lib.hid (HKO.out.below (hBw2.out.trans (hb2.mono hBw2.out.size)).drew)
       have HG2:=Lib.hid G2
       have HB2:=Lib.hid hb2
       clear hw2 G2 hb2 x0 x1 x2 x3 x4 x5 x6
       go_region_law (first
        | (go_simp;go_at_call 40;refine (roomy_I w2.drew nd.ka nd.kl nd.kc nd.ks (-77) K2.out (by omega)).mono ?_;rintro e w3 ⟨gk,rfl,hok3,hb3⟩
           have hb3':Below w2.heap.size w2 w3:=(Below.refl _ _).drew.trans hb3
           have G3:=(hb3'.block wr.heap.size hz2).trans HG2.out
           have n63:=keepb hb3' n6
           have f63:=frozen_of_row w3 _ 6 _ _ G3))
       · obtain ⟨w4,hw4⟩:∃ w4,w4=w3.setCell ⟨wr.heap.size,6,none⟩ (.slice (some ⟨gk,0,none⟩) nd.kl (nd.kl+80)):=⟨_,rfl⟩
         have hz3:wr.heap.size < w3.heap.size:=Nat.lt_of_lt_of_le hz2 hb3'.size
         have G4:w4.heap[wr.heap.size]?=some (.cells #[.int .i64 nd.op,.string nd.nm,.int .i64 nd.vk,.int .i64 nd.vn,.string nd.vt,.slice nd.sa nd.sl nd.sc,.slice (some ⟨gk,0,none⟩) nd.kl (nd.kl+80)] 56 (0,0)):=by
          rw [hw4];exact heap_setCell_same w3 wr.heap.size 6 _ _ _ G3
         have hok4:w4.ownsRow w.heap.size 3 1 (.slice (some ⟨gk,0,none⟩) (nd.kl+80) (nd.kl+80)) (nd.kl+80) ((nd.ks++List.replicate 80 (-77)).flatMap Iv):=by
          rw [hw4]
          exact (owns_mono hok3 (show w.heap.size≤w2.heap.size by have:=hBw2.out.size;omega)).kept (grown_set' w3 wr.heap.size 6 _) (.inr (own_ne hok3 G3 (by decide)))
         have hb4:Below wr.heap.size wr w4:=by
          rw [hw4];exact (HB2.out.trans (hb3'.mono (by omega))).setCell (p:=⟨wr.heap.size,6,none⟩) (Nat.le_refl _) _
         have hz4:wr.heap.size < w4.heap.size:=by rw [hw4];simpa using hz3
         rw [← hw4]
         have n5:=cell_of_row w4 _ 5 _ _ _ G4
         have f5:=frozen_of_row w4 _ 5 _ _ G4
         simp only [List.getElem?_toArray,List.getElem?_cons_zero,List.getElem?_cons_succ] at n5
         have S4:=Lib.hid (HSS.out.below (hBw2.out.trans (hb4.mono hBw2.out.size)).drew)
         have HG4:=Lib.hid G4
         have HB4:=Lib.hid hb4
         have HO4:=Lib.hid hok4
         clear hw4 G4 hb4 hok4 G3 n63 f63 hok3 hb3 hb3' hz3 n6 f6
         go_wp2_with fail
         go_region_law (first
          | (go_simp;go_at_call 37;refine (roomy_S w4.drew nd.sa nd.sl nd.sc ss mkS S4.out (by omega)).mono ?_;rintro e w5 ⟨gs,rfl,hos5,hb5⟩
             have hb5':Below w4.heap.size w4 w5:=(Below.refl _ _).drew.trans hb5
             have G5:=(hb5'.block wr.heap.size hz4).trans HG4.out
             have n55:=keepb hb5' n5
             have f55:=frozen_of_row w5 _ 5 _ _ G5))
         · clear n5 f5
           obtain ⟨w6,hw6⟩:∃ w6,w6=w5.setCell ⟨wr.heap.size,5,none⟩ (.slice (some ⟨gs,0,none⟩) nd.sl (nd.sl+80)):=⟨_,rfl⟩
           have G6:w6.heap[wr.heap.size]?=some (.cells #[.int .i64 nd.op,.string nd.nm,.int .i64 nd.vk,.int .i64 nd.vn,.string nd.vt,.slice (some ⟨gs,0,none⟩) nd.sl (nd.sl+80),.slice (some ⟨gk,0,none⟩) nd.kl (nd.kl+80)] 56 (0,0)):=by
            rw [hw6];exact heap_setCell_same w5 wr.heap.size 5 _ _ _ G5
           have hos6:w6.ownsRow w.heap.size 9 1 (.slice (some ⟨gs,0,none⟩) (nd.sl+80) (nd.sl+80)) (nd.sl+80) ((ss++List.replicate 80 mkS).flatMap Sv):=by
            rw [hw6]
            exact (owns_mono hos5 (show w.heap.size≤w4.heap.size by have:=hBw2.out.size;omega)).kept (grown_set' w5 wr.heap.size 5 _) (.inr (own_ne hos5 G5 (by decide)))
           have hok6:w6.ownsRow w.heap.size 3 1 (.slice (some ⟨gk,0,none⟩) (nd.kl+80) (nd.kl+80)) (nd.kl+80) ((nd.ks++List.replicate 80 (-77)).flatMap Iv):=by
            rw [hw6]
            have h5:=own_below HO4.out hb5'
            exact h5.kept (grown_set' w5 wr.heap.size 5 _) (.inr (own_ne h5 G5 (by decide)))
           have hb6:Below wr.heap.size wr w6:=by
            rw [hw6];exact (HB4.out.trans (hb5'.mono (by omega))).setCell (p:=⟨wr.heap.size,5,none⟩) (Nat.le_refl _) _
           rw [← hw6]
           obtain ⟨u,hu⟩:∃ u:Nd,u=⟨nd.op,nd.nm,nd.vk,nd.vn,nd.vt,some ⟨gs,0,none⟩,nd.sl,nd.sl+80,some ⟨gk,0,none⟩,nd.kl,nd.kl+80,nd.ks⟩:=⟨_,rfl⟩
           have hsl:ss.length=nd.sl:=HSS.out.1
           have hnew:WhoI w w6 u nd:=by
            rw [hu];exact ⟨rfl,rfl,rfl,rfl,rfl,rfl,rfl,rfl,rfl,rfl,hok6,ss,hsl,HSS.out,hos6⟩
           have ho:=own_below HO.out hb6
           obtain ⟨hf1,hz⟩:=fill2 us n k u HUS.out hlt
           have c0:=own_at Nd_len2 ho hz 0 _ rfl
           have f0:=ho.frozenAt (k * 7)
           have c1:=own_at Nd_len2 ho hz 1 _ rfl
           have f1:=ho.frozenAt (k * 7+1)
           have c2:=own_at Nd_len2 ho hz 2 _ rfl
           have f2:=ho.frozenAt (k * 7+2)
           have c3:=own_at Nd_len2 ho hz 3 _ rfl
           have f3:=ho.frozenAt (k * 7+3)
           have c4:=own_at Nd_len2 ho hz 4 _ rfl
           have f4:=ho.frozenAt (k * 7+4)
           have c5:=own_at Nd_len2 ho hz 5 _ rfl
           have f5:=ho.frozenAt (k * 7+5)
           have c6:=own_at Nd_len2 ho hz 6 _ rfl
           have f6:=ho.frozenAt (k * 7+6)
           have b0:=cell_of_row w6 _ 0 _ _ _ G6
           have b1:=cell_of_row w6 _ 1 _ _ _ G6
           have b2:=cell_of_row w6 _ 2 _ _ _ G6
           have b3:=cell_of_row w6 _ 3 _ _ _ G6
           have b4:=cell_of_row w6 _ 4 _ _ _ G6
           have b5:=cell_of_row w6 _ 5 _ _ _ G6
           have b6:=cell_of_row w6 _ 6 _ _ _ G6
           simp only [List.getElem?_toArray,List.getElem?_cons_zero,List.getElem?_cons_succ] at b0 b1 b2 b3 b4 b5 b6
           simp only [Nat.add_zero,markNd] at c0 c1 c2 c3 c4 c5 c6
           have hlenk:=(List.getElem?_eq_some_iff.1 hz).1
           obtain ⟨ho',hg'⟩:=own_chain (Nd.cs u) _ w6 (k * 7) ho
           rw [setList_flat Nd.cs 7 Nd_len2 _ k u hlenk,hf1] at ho'
           have hW:∀ (i:Nat) (u' nd':Nd),(us++[u])[i]?=some u'→ns[i]?=some nd'→WhoI w (setChain w6 B (k * 7) (Nd.cs u)) u' nd':=by
            intro i u' nd' hi hi2
            by_cases hik:i < k
            · rw [List.getElem?_append_left (by rw [HUS.out];exact hik)] at hi
              exact ((HWH.out i u' nd' hi hi2).below hb6).grown ho hg'
            · have hik2:i=k:=by
               have:=(List.getElem?_eq_some_iff.1 hi).1
               have h2:=HUS.out
               simp at this;omega
              subst hik2
              rw [List.getElem?_append_right (by rw [HUS.out];omega),HUS.out] at hi
              simp at hi
              rw [HND.out] at hi2
              obtain rfl:=Option.some.inj hi2
              subst hi
              exact hnew.grown ho hg'
           have hB6:Below B w (setChain w6 B (k * 7) (Nd.cs u)):=below_chain (Nat.le_refl B) (Nd.cs u) w6 (k * 7) (HBK.out.trans (hb6.mono (by have:=HBK.out.size;have:=HB.out;omega)))
           rw [hu] at ho' hW hB6
           have HO':=Lib.hid ho'
           have HW':=Lib.hid hW
           have HB':=Lib.hid hB6
           have hlt8:(k:Int) < (n:Int)+8:=by omega
           clear hw6 G6 hos6 hok6 hb6 hu hnew ho hf1 hz hlenk ho' hg' hW hB6 n55 f55 G5 hb5 hb5' hos5
           go_wp2
           refine ⟨?_,?measure⟩
           (repeat apply Exists.intro)
           refine ⟨?rel,rfl⟩
           case rel=>exact ⟨k+1,_,by omega,by go_num,by simp [HUS.out],HB'.out,HO'.out,HW'.out⟩
           case measure=>simp [intOf];omega
         · clear n5 f5
           obtain ⟨w6,hw6⟩:∃ w6,w6=w5.setCell ⟨wr.heap.size,5,none⟩ (.slice (some ⟨gs,0,none⟩) nd.sl (nd.sl+80)):=⟨_,rfl⟩
           have G6:w6.heap[wr.heap.size]?=some (.cells #[.int .i64 nd.op,.string nd.nm,.int .i64 nd.vk,.int .i64 nd.vn,.string nd.vt,.slice (some ⟨gs,0,none⟩) nd.sl (nd.sl+80),.slice (some ⟨gk,0,none⟩) nd.kl (nd.kl+80)] 56 (0,0)):=by
            rw [hw6];exact heap_setCell_same w5 wr.heap.size 5 _ _ _ G5
           have hos6:w6.ownsRow w.heap.size 9 1 (.slice (some ⟨gs,0,none⟩) (nd.sl+80) (nd.sl+80)) (nd.sl+80) ((ss++List.replicate 80 mkS).flatMap Sv):=by
            rw [hw6]
            exact (owns_mono hos5 (show w.heap.size≤w4.heap.size by have:=hBw2.out.size;omega)).kept (grown_set' w5 wr.heap.size 5 _) (.inr (own_ne hos5 G5 (by decide)))
           have hok6:w6.ownsRow w.heap.size 3 1 (.slice (some ⟨gk,0,none⟩) (nd.kl+80) (nd.kl+80)) (nd.kl+80) ((nd.ks++List.replicate 80 (-77)).flatMap Iv):=by
            rw [hw6]
            have h5:=own_below HO4.out hb5'
            exact h5.kept (grown_set' w5 wr.heap.size 5 _) (.inr (own_ne h5 G5 (by decide)))
           have hb6:Below wr.heap.size wr w6:=by
            rw [hw6];exact (HB4.out.trans (hb5'.mono (by omega))).setCell (p:=⟨wr.heap.size,5,none⟩) (Nat.le_refl _) _
           rw [← hw6]
           obtain ⟨u,hu⟩:∃ u:Nd,u=⟨nd.op,nd.nm,nd.vk,nd.vn,nd.vt,some ⟨gs,0,none⟩,nd.sl,nd.sl+80,some ⟨gk,0,none⟩,nd.kl,nd.kl+80,nd.ks⟩:=⟨_,rfl⟩
           have hsl:ss.length=nd.sl:=HSS.out.1
           have hnew:WhoI w w6 u nd:=by
            rw [hu];exact ⟨rfl,rfl,rfl,rfl,rfl,rfl,rfl,rfl,rfl,rfl,hok6,ss,hsl,HSS.out,hos6⟩
           have ho:=own_below HO.out hb6
           obtain ⟨hf1,hz⟩:=fill2 us n k u HUS.out hlt
           have c0:=own_at Nd_len2 ho hz 0 _ rfl
           have f0:=ho.frozenAt (k * 7)
           have c1:=own_at Nd_len2 ho hz 1 _ rfl
           have f1:=ho.frozenAt (k * 7+1)
           have c2:=own_at Nd_len2 ho hz 2 _ rfl
           have f2:=ho.frozenAt (k * 7+2)
           have c3:=own_at Nd_len2 ho hz 3 _ rfl
           have f3:=ho.frozenAt (k * 7+3)
           have c4:=own_at Nd_len2 ho hz 4 _ rfl
           have f4:=ho.frozenAt (k * 7+4)
           have c5:=own_at Nd_len2 ho hz 5 _ rfl
           have f5:=ho.frozenAt (k * 7+5)
           have c6:=own_at Nd_len2 ho hz 6 _ rfl
           have f6:=ho.frozenAt (k * 7+6)
           have b0:=cell_of_row w6 _ 0 _ _ _ G6
           have b1:=cell_of_row w6 _ 1 _ _ _ G6
           have b2:=cell_of_row w6 _ 2 _ _ _ G6
           have b3:=cell_of_row w6 _ 3 _ _ _ G6
           have b4:=cell_of_row w6 _ 4 _ _ _ G6
           have b5:=cell_of_row w6 _ 5 _ _ _ G6
           have b6:=cell_of_row w6 _ 6 _ _ _ G6
           simp only [List.getElem?_toArray,List.getElem?_cons_zero,List.getElem?_cons_succ] at b0 b1 b2 b3 b4 b5 b6
           simp only [Nat.add_zero,markNd] at c0 c1 c2 c3 c4 c5 c6
           have hlenk:=(List.getElem?_eq_some_iff.1 hz).1
           obtain ⟨ho',hg'⟩:=own_chain (Nd.cs u) _ w6 (k * 7) ho
           rw [setList_flat Nd.cs 7 Nd_len2 _ k u hlenk,hf1] at ho'
           have hW:∀ (i:Nat) (u' nd':Nd),(us++[u])[i]?=some u'→ns[i]?=some nd'→WhoI w (setChain w6 B (k * 7) (Nd.cs u)) u' nd':=by
            intro i u' nd' hi hi2
            by_cases hik:i < k
            · rw [List.getElem?_append_left (by rw [HUS.out];exact hik)] at hi
              exact ((HWH.out i u' nd' hi hi2).below hb6).grown ho hg'
            · have hik2:i=k:=by
               have:=(List.getElem?_eq_some_iff.1 hi).1
               have h2:=HUS.out
               simp at this;omega
              subst hik2
              rw [List.getElem?_append_right (by rw [HUS.out];omega),HUS.out] at hi
              simp at hi
              rw [HND.out] at hi2
              obtain rfl:=Option.some.inj hi2
              subst hi
              exact hnew.grown ho hg'
           have hB6:Below B w (setChain w6 B (k * 7) (Nd.cs u)):=below_chain (Nat.le_refl B) (Nd.cs u) w6 (k * 7) (HBK.out.trans (hb6.mono (by have:=HBK.out.size;have:=HB.out;omega)))
           rw [hu] at ho' hW hB6
           have HO':=Lib.hid ho'
           have HW':=Lib.hid hW
           have HB':=Lib.hid hB6
           have hlt8:(k:Int) < (n:Int)+8:=by omega
           clear hw6 G6 hos6 hok6 hb6 hu hnew ho hf1 hz hlenk ho' hg' hW hB6 n55 f55 G5 hb5 hb5' hos5
           go_wp2
           refine ⟨?_,?measure⟩
           (repeat apply Exists.intro)
           refine ⟨?rel,rfl⟩
           case rel=>exact ⟨k+1,_,by omega,by go_num,by simp [HUS.out],HB'.out,HO'.out,HW'.out⟩
           case measure=>simp [intOf];omega
         · clear n5 f5
           obtain ⟨w6,hw6⟩:∃ w6,w6=w5.setCell ⟨wr.heap.size,5,none⟩ (.slice (some ⟨gs,0,none⟩) nd.sl (nd.sl+80)):=⟨_,rfl⟩
           have G6:w6.heap[wr.heap.size]?=some (.cells #[.int .i64 nd.op,.string nd.nm,.int .i64 nd.vk,.int .i64 nd.vn,.string nd.vt,.slice (some ⟨gs,0,none⟩) nd.sl (nd.sl+80),.slice (some ⟨gk,0,none⟩) nd.kl (nd.kl+80)] 56 (0,0)):=by
            rw [hw6];exact heap_setCell_same w5 wr.heap.size 5 _ _ _ G5
           have hos6:w6.ownsRow w.heap.size 9 1 (.slice (some ⟨gs,0,none⟩) (nd.sl+80) (nd.sl+80)) (nd.sl+80) ((ss++List.replicate 80 mkS).flatMap Sv):=by
            rw [hw6]
            exact (owns_mono hos5 (show w.heap.size≤w4.heap.size by have:=hBw2.out.size;omega)).kept (grown_set' w5 wr.heap.size 5 _) (.inr (own_ne hos5 G5 (by decide)))
           have hok6:w6.ownsRow w.heap.size 3 1 (.slice (some ⟨gk,0,none⟩) (nd.kl+80) (nd.kl+80)) (nd.kl+80) ((nd.ks++List.replicate 80 (-77)).flatMap Iv):=by
            rw [hw6]
            have h5:=own_below HO4.out hb5'
            exact h5.kept (grown_set' w5 wr.heap.size 5 _) (.inr (own_ne h5 G5 (by decide)))
           have hb6:Below wr.heap.size wr w6:=by
            rw [hw6];exact (HB4.out.trans (hb5'.mono (by omega))).setCell (p:=⟨wr.heap.size,5,none⟩) (Nat.le_refl _) _
           rw [← hw6]
           obtain ⟨u,hu⟩:∃ u:Nd,u=⟨nd.op,nd.nm,nd.vk,nd.vn,nd.vt,some ⟨gs,0,none⟩,nd.sl,nd.sl+80,some ⟨gk,0,none⟩,nd.kl,nd.kl+80,nd.ks⟩:=⟨_,rfl⟩
           have hsl:ss.length=nd.sl:=HSS.out.1
           have hnew:WhoI w w6 u nd:=by
            rw [hu];exact ⟨rfl,rfl,rfl,rfl,rfl,rfl,rfl,rfl,rfl,rfl,hok6,ss,hsl,HSS.out,hos6⟩
           have ho:=own_below HO.out hb6
           obtain ⟨hf1,hz⟩:=fill2 us n k u HUS.out hlt
           have c0:=own_at Nd_len2 ho hz 0 _ rfl
           have f0:=ho.frozenAt (k * 7)
           have c1:=own_at Nd_len2 ho hz 1 _ rfl
           have f1:=ho.frozenAt (k * 7+1)
           have c2:=own_at Nd_len2 ho hz 2 _ rfl
           have f2:=ho.frozenAt (k * 7+2)
           have c3:=own_at Nd_len2 ho hz 3 _ rfl
           have f3:=ho.frozenAt (k * 7+3)
           have c4:=own_at Nd_len2 ho hz 4 _ rfl
           have f4:=ho.frozenAt (k * 7+4)
           have c5:=own_at Nd_len2 ho hz 5 _ rfl
           have f5:=ho.frozenAt (k * 7+5)
           have c6:=own_at Nd_len2 ho hz 6 _ rfl
           have f6:=ho.frozenAt (k * 7+6)
           have b0:=cell_of_row w6 _ 0 _ _ _ G6
           have b1:=cell_of_row w6 _ 1 _ _ _ G6
           have b2:=cell_of_row w6 _ 2 _ _ _ G6
           have b3:=cell_of_row w6 _ 3 _ _ _ G6
           have b4:=cell_of_row w6 _ 4 _ _ _ G6
           have b5:=cell_of_row w6 _ 5 _ _ _ G6
           have b6:=cell_of_row w6 _ 6 _ _ _ G6
           simp only [List.getElem?_toArray,List.getElem?_cons_zero,List.getElem?_cons_succ] at b0 b1 b2 b3 b4 b5 b6
           simp only [Nat.add_zero,markNd] at c0 c1 c2 c3 c4 c5 c6
           have hlenk:=(List.getElem?_eq_some_iff.1 hz).1
           obtain ⟨ho',hg'⟩:=own_chain (Nd.cs u) _ w6 (k * 7) ho
           rw [setList_flat Nd.cs 7 Nd_len2 _ k u hlenk,hf1] at ho'
           have hW:∀ (i:Nat) (u' nd':Nd),(us++[u])[i]?=some u'→ns[i]?=some nd'→WhoI w (setChain w6 B (k * 7) (Nd.cs u)) u' nd':=by
            intro i u' nd' hi hi2
            by_cases hik:i < k
            · rw [List.getElem?_append_left (by rw [HUS.out];exact hik)] at hi
              exact ((HWH.out i u' nd' hi hi2).below hb6).grown ho hg'
            · have hik2:i=k:=by
               have:=(List.getElem?_eq_some_iff.1 hi).1
               have h2:=HUS.out
               simp at this;omega
              subst hik2
              rw [List.getElem?_append_right (by rw [HUS.out];omega),HUS.out] at hi
              simp at hi
              rw [HND.out] at hi2
              obtain rfl:=Option.some.inj hi2
              subst hi
              exact hnew.grown ho hg'
           have hB6:Below B w (setChain w6 B (k * 7) (Nd.cs u)):=below_chain (Nat.le_refl B) (Nd.cs u) w6 (k * 7) (HBK.out.trans (hb6.mono (by have:=HBK.out.size;have:=HB.out;omega)))
           rw [hu] at ho' hW hB6
           have HO':=Lib.hid ho'
           have HW':=Lib.hid hW
           have HB':=Lib.hid hB6
           have hlt8:(k:Int) < (n:Int)+8:=by omega
           clear hw6 G6 hos6 hok6 hb6 hu hnew ho hf1 hz hlenk ho' hg' hW hB6 n55 f55 G5 hb5 hb5' hos5
           go_wp2
           refine ⟨?_,?measure⟩
           (repeat apply Exists.intro)
           refine ⟨?rel,rfl⟩
           case rel=>exact ⟨k+1,_,by omega,by go_num,by simp [HUS.out],HB'.out,HO'.out,HW'.out⟩
           case measure=>simp [intOf];omega
       · obtain ⟨w4,hw4⟩:∃ w4,w4=w3.setCell ⟨wr.heap.size,6,none⟩ (.slice (some ⟨gk,0,none⟩) nd.kl (nd.kl+80)):=⟨_,rfl⟩
         have hz3:wr.heap.size < w3.heap.size:=Nat.lt_of_lt_of_le hz2 hb3'.size
         have G4:w4.heap[wr.heap.size]?=some (.cells #[.int .i64 nd.op,.string nd.nm,.int .i64 nd.vk,.int .i64 nd.vn,.string nd.vt,.slice nd.sa nd.sl nd.sc,.slice (some ⟨gk,0,none⟩) nd.kl (nd.kl+80)] 56 (0,0)):=by
          rw [hw4];exact heap_setCell_same w3 wr.heap.size 6 _ _ _ G3
         have hok4:w4.ownsRow w.heap.size 3 1 (.slice (some ⟨gk,0,none⟩) (nd.kl+80) (nd.kl+80)) (nd.kl+80) ((nd.ks++List.replicate 80 (-77)).flatMap Iv):=by
          rw [hw4]
          exact (owns_mono hok3 (show w.heap.size≤w2.heap.size by have:=hBw2.out.size;omega)).kept (grown_set' w3 wr.heap.size 6 _) (.inr (own_ne hok3 G3 (by decide)))
         have hb4:Below wr.heap.size wr w4:=by
          rw [hw4];exact (HB2.out.trans (hb3'.mono (by omega))).setCell (p:=⟨wr.heap.size,6,none⟩) (Nat.le_refl _) _
         have hz4:wr.heap.size < w4.heap.size:=by rw [hw4];simpa using hz3
         rw [← hw4]
         have n5:=cell_of_row w4 _ 5 _ _ _ G4
         have f5:=frozen_of_row w4 _ 5 _ _ G4
         simp only [List.getElem?_toArray,List.getElem?_cons_zero,List.getElem?_cons_succ] at n5
         have S4:=Lib.hid (HSS.out.below (hBw2.out.trans (hb4.mono hBw2.out.size)).drew)
         have HG4:=Lib.hid G4
         have HB4:=Lib.hid hb4
         have HO4:=Lib.hid hok4
         clear hw4 G4 hb4 hok4 G3 n63 f63 hok3 hb3 hb3' hz3 n6 f6
         go_wp2_with fail
         go_region_law (first
          | (go_simp;go_at_call 37;refine (roomy_S w4.drew nd.sa nd.sl nd.sc ss mkS S4.out (by omega)).mono ?_;rintro e w5 ⟨gs,rfl,hos5,hb5⟩
             have hb5':Below w4.heap.size w4 w5:=(Below.refl _ _).drew.trans hb5
             have G5:=(hb5'.block wr.heap.size hz4).trans HG4.out
             have n55:=keepb hb5' n5
             have f55:=frozen_of_row w5 _ 5 _ _ G5))
         · clear n5 f5
           obtain ⟨w6,hw6⟩:∃ w6,w6=w5.setCell ⟨wr.heap.size,5,none⟩ (.slice (some ⟨gs,0,none⟩) nd.sl (nd.sl+80)):=⟨_,rfl⟩
           have G6:w6.heap[wr.heap.size]?=some (.cells #[.int .i64 nd.op,.string nd.nm,.int .i64 nd.vk,.int .i64 nd.vn,.string nd.vt,.slice (some ⟨gs,0,none⟩) nd.sl (nd.sl+80),.slice (some ⟨gk,0,none⟩) nd.kl (nd.kl+80)] 56 (0,0)):=by
            rw [hw6];exact heap_setCell_same w5 wr.heap.size 5 _ _ _ G5
           have hos6:w6.ownsRow w.heap.size 9 1 (.slice (some ⟨gs,0,none⟩) (nd.sl+80) (nd.sl+80)) (nd.sl+80) ((ss++List.replicate 80 mkS).flatMap Sv):=by
            rw [hw6]
            exact (owns_mono hos5 (show w.heap.size≤w4.heap.size by have:=hBw2.out.size;omega)).kept (grown_set' w5 wr.heap.size 5 _) (.inr (own_ne hos5 G5 (by decide)))
           have hok6:w6.ownsRow w.heap.size 3 1 (.slice (some ⟨gk,0,none⟩) (nd.kl+80) (nd.kl+80)) (nd.kl+80) ((nd.ks++List.replicate 80 (-77)).flatMap Iv):=by
            rw [hw6]
            have h5:=own_below HO4.out hb5'
            exact h5.kept (grown_set' w5 wr.heap.size 5 _) (.inr (own_ne h5 G5 (by decide)))
           have hb6:Below wr.heap.size wr w6:=by
            rw [hw6];exact (HB4.out.trans (hb5'.mono (by omega))).setCell (p:=⟨wr.heap.size,5,none⟩) (Nat.le_refl _) _
           rw [← hw6]
           obtain ⟨u,hu⟩:∃ u:Nd,u=⟨nd.op,nd.nm,nd.vk,nd.vn,nd.vt,some ⟨gs,0,none⟩,nd.sl,nd.sl+80,some ⟨gk,0,none⟩,nd.kl,nd.kl+80,nd.ks⟩:=⟨_,rfl⟩
           have hsl:ss.length=nd.sl:=HSS.out.1
           have hnew:WhoI w w6 u nd:=by
            rw [hu];exact ⟨rfl,rfl,rfl,rfl,rfl,rfl,rfl,rfl,rfl,rfl,hok6,ss,hsl,HSS.out,hos6⟩
           have ho:=own_below HO.out hb6
           obtain ⟨hf1,hz⟩:=fill2 us n k u HUS.out hlt
           have c0:=own_at Nd_len2 ho hz 0 _ rfl
           have f0:=ho.frozenAt (k * 7)
           have c1:=own_at Nd_len2 ho hz 1 _ rfl
           have f1:=ho.frozenAt (k * 7+1)
           have c2:=own_at Nd_len2 ho hz 2 _ rfl
           have f2:=ho.frozenAt (k * 7+2)
           have c3:=own_at Nd_len2 ho hz 3 _ rfl
           have f3:=ho.frozenAt (k * 7+3)
           have c4:=own_at Nd_len2 ho hz 4 _ rfl
           have f4:=ho.frozenAt (k * 7+4)
           have c5:=own_at Nd_len2 ho hz 5 _ rfl
           have f5:=ho.frozenAt (k * 7+5)
           have c6:=own_at Nd_len2 ho hz 6 _ rfl
           have f6:=ho.frozenAt (k * 7+6)
           have b0:=cell_of_row w6 _ 0 _ _ _ G6
           have b1:=cell_of_row w6 _ 1 _ _ _ G6
           have b2:=cell_of_row w6 _ 2 _ _ _ G6
           have b3:=cell_of_row w6 _ 3 _ _ _ G6
           have b4:=cell_of_row w6 _ 4 _ _ _ G6
           have b5:=cell_of_row w6 _ 5 _ _ _ G6
           have b6:=cell_of_row w6 _ 6 _ _ _ G6
           simp only [List.getElem?_toArray,List.getElem?_cons_zero,List.getElem?_cons_succ] at b0 b1 b2 b3 b4 b5 b6
           simp only [Nat.add_zero,markNd] at c0 c1 c2 c3 c4 c5 c6
           have hlenk:=(List.getElem?_eq_some_iff.1 hz).1
           obtain ⟨ho',hg'⟩:=own_chain (Nd.cs u) _ w6 (k * 7) ho
           rw [setList_flat Nd.cs 7 Nd_len2 _ k u hlenk,hf1] at ho'
           have hW:∀ (i:Nat) (u' nd':Nd),(us++[u])[i]?=some u'→ns[i]?=some nd'→WhoI w (setChain w6 B (k * 7) (Nd.cs u)) u' nd':=by
            intro i u' nd' hi hi2
            by_cases hik:i < k
            · rw [List.getElem?_append_left (by rw [HUS.out];exact hik)] at hi
              exact ((HWH.out i u' nd' hi hi2).below hb6).grown ho hg'
            · have hik2:i=k:=by
               have:=(List.getElem?_eq_some_iff.1 hi).1
               have h2:=HUS.out
               simp at this;omega
              subst hik2
              rw [List.getElem?_append_right (by rw [HUS.out];omega),HUS.out] at hi
              simp at hi
              rw [HND.out] at hi2
              obtain rfl:=Option.some.inj hi2
              subst hi
              exact hnew.grown ho hg'
           have hB6:Below B w (setChain w6 B (k * 7) (Nd.cs u)):=below_chain (Nat.le_refl B) (Nd.cs u) w6 (k * 7) (HBK.out.trans (hb6.mono (by have:=HBK.out.size;have:=HB.out;omega)))
           rw [hu] at ho' hW hB6
           have HO':=Lib.hid ho'
           have HW':=Lib.hid hW
           have HB':=Lib.hid hB6
           have hlt8:(k:Int) < (n:Int)+8:=by omega
           clear hw6 G6 hos6 hok6 hb6 hu hnew ho hf1 hz hlenk ho' hg' hW hB6 n55 f55 G5 hb5 hb5' hos5
           go_wp2
           refine ⟨?_,?measure⟩
           (repeat apply Exists.intro)
           refine ⟨?rel,rfl⟩
           case rel=>exact ⟨k+1,_,by omega,by go_num,by simp [HUS.out],HB'.out,HO'.out,HW'.out⟩
           case measure=>simp [intOf];omega
         · clear n5 f5
           obtain ⟨w6,hw6⟩:∃ w6,w6=w5.setCell ⟨wr.heap.size,5,none⟩ (.slice (some ⟨gs,0,none⟩) nd.sl (nd.sl+80)):=⟨_,rfl⟩
           have G6:w6.heap[wr.heap.size]?=some (.cells #[.int .i64 nd.op,.string nd.nm,.int .i64 nd.vk,.int .i64 nd.vn,.string nd.vt,.slice (some ⟨gs,0,none⟩) nd.sl (nd.sl+80),.slice (some ⟨gk,0,none⟩) nd.kl (nd.kl+80)] 56 (0,0)):=by
            rw [hw6];exact heap_setCell_same w5 wr.heap.size 5 _ _ _ G5
           have hos6:w6.ownsRow w.heap.size 9 1 (.slice (some ⟨gs,0,none⟩) (nd.sl+80) (nd.sl+80)) (nd.sl+80) ((ss++List.replicate 80 mkS).flatMap Sv):=by
            rw [hw6]
            exact (owns_mono hos5 (show w.heap.size≤w4.heap.size by have:=hBw2.out.size;omega)).kept (grown_set' w5 wr.heap.size 5 _) (.inr (own_ne hos5 G5 (by decide)))
           have hok6:w6.ownsRow w.heap.size 3 1 (.slice (some ⟨gk,0,none⟩) (nd.kl+80) (nd.kl+80)) (nd.kl+80) ((nd.ks++List.replicate 80 (-77)).flatMap Iv):=by
            rw [hw6]
            have h5:=own_below HO4.out hb5'
            exact h5.kept (grown_set' w5 wr.heap.size 5 _) (.inr (own_ne h5 G5 (by decide)))
           have hb6:Below wr.heap.size wr w6:=by
            rw [hw6];exact (HB4.out.trans (hb5'.mono (by omega))).setCell (p:=⟨wr.heap.size,5,none⟩) (Nat.le_refl _) _
           rw [← hw6]
           obtain ⟨u,hu⟩:∃ u:Nd,u=⟨nd.op,nd.nm,nd.vk,nd.vn,nd.vt,some ⟨gs,0,none⟩,nd.sl,nd.sl+80,some ⟨gk,0,none⟩,nd.kl,nd.kl+80,nd.ks⟩:=⟨_,rfl⟩
           have hsl:ss.length=nd.sl:=HSS.out.1
           have hnew:WhoI w w6 u nd:=by
            rw [hu];exact ⟨rfl,rfl,rfl,rfl,rfl,rfl,rfl,rfl,rfl,rfl,hok6,ss,hsl,HSS.out,hos6⟩
           have ho:=own_below HO.out hb6
           obtain ⟨hf1,hz⟩:=fill2 us n k u HUS.out hlt
           have c0:=own_at Nd_len2 ho hz 0 _ rfl
           have f0:=ho.frozenAt (k * 7)
           have c1:=own_at Nd_len2 ho hz 1 _ rfl
           have f1:=ho.frozenAt (k * 7+1)
           have c2:=own_at Nd_len2 ho hz 2 _ rfl
           have f2:=ho.frozenAt (k * 7+2)
           have c3:=own_at Nd_len2 ho hz 3 _ rfl
           have f3:=ho.frozenAt (k * 7+3)
           have c4:=own_at Nd_len2 ho hz 4 _ rfl
           have f4:=ho.frozenAt (k * 7+4)
           have c5:=own_at Nd_len2 ho hz 5 _ rfl
           have f5:=ho.frozenAt (k * 7+5)
           have c6:=own_at Nd_len2 ho hz 6 _ rfl
           have f6:=ho.frozenAt (k * 7+6)
           have b0:=cell_of_row w6 _ 0 _ _ _ G6
           have b1:=cell_of_row w6 _ 1 _ _ _ G6
           have b2:=cell_of_row w6 _ 2 _ _ _ G6
           have b3:=cell_of_row w6 _ 3 _ _ _ G6
           have b4:=cell_of_row w6 _ 4 _ _ _ G6
           have b5:=cell_of_row w6 _ 5 _ _ _ G6
           have b6:=cell_of_row w6 _ 6 _ _ _ G6
           simp only [List.getElem?_toArray,List.getElem?_cons_zero,List.getElem?_cons_succ] at b0 b1 b2 b3 b4 b5 b6
           simp only [Nat.add_zero,markNd] at c0 c1 c2 c3 c4 c5 c6
           have hlenk:=(List.getElem?_eq_some_iff.1 hz).1
           obtain ⟨ho',hg'⟩:=own_chain (Nd.cs u) _ w6 (k * 7) ho
           rw [setList_flat Nd.cs 7 Nd_len2 _ k u hlenk,hf1] at ho'
           have hW:∀ (i:Nat) (u' nd':Nd),(us++[u])[i]?=some u'→ns[i]?=some nd'→WhoI w (setChain w6 B (k * 7) (Nd.cs u)) u' nd':=by
            intro i u' nd' hi hi2
            by_cases hik:i < k
            · rw [List.getElem?_append_left (by rw [HUS.out];exact hik)] at hi
              exact ((HWH.out i u' nd' hi hi2).below hb6).grown ho hg'
            · have hik2:i=k:=by
               have:=(List.getElem?_eq_some_iff.1 hi).1
               have h2:=HUS.out
               simp at this;omega
              subst hik2
              rw [List.getElem?_append_right (by rw [HUS.out];omega),HUS.out] at hi
              simp at hi
              rw [HND.out] at hi2
              obtain rfl:=Option.some.inj hi2
              subst hi
              exact hnew.grown ho hg'
           have hB6:Below B w (setChain w6 B (k * 7) (Nd.cs u)):=below_chain (Nat.le_refl B) (Nd.cs u) w6 (k * 7) (HBK.out.trans (hb6.mono (by have:=HBK.out.size;have:=HB.out;omega)))
           rw [hu] at ho' hW hB6
           have HO':=Lib.hid ho'
           have HW':=Lib.hid hW
           have HB':=Lib.hid hB6
           have hlt8:(k:Int) < (n:Int)+8:=by omega
           clear hw6 G6 hos6 hok6 hb6 hu hnew ho hf1 hz hlenk ho' hg' hW hB6 n55 f55 G5 hb5 hb5' hos5
           go_wp2
           refine ⟨?_,?measure⟩
           (repeat apply Exists.intro)
           refine ⟨?rel,rfl⟩
           case rel=>exact ⟨k+1,_,by omega,by go_num,by simp [HUS.out],HB'.out,HO'.out,HW'.out⟩
           case measure=>simp [intOf];omega
         · clear n5 f5
           obtain ⟨w6,hw6⟩:∃ w6,w6=w5.setCell ⟨wr.heap.size,5,none⟩ (.slice (some ⟨gs,0,none⟩) nd.sl (nd.sl+80)):=⟨_,rfl⟩
           have G6:w6.heap[wr.heap.size]?=some (.cells #[.int .i64 nd.op,.string nd.nm,.int .i64 nd.vk,.int .i64 nd.vn,.string nd.vt,.slice (some ⟨gs,0,none⟩) nd.sl (nd.sl+80),.slice (some ⟨gk,0,none⟩) nd.kl (nd.kl+80)] 56 (0,0)):=by
            rw [hw6];exact heap_setCell_same w5 wr.heap.size 5 _ _ _ G5
           have hos6:w6.ownsRow w.heap.size 9 1 (.slice (some ⟨gs,0,none⟩) (nd.sl+80) (nd.sl+80)) (nd.sl+80) ((ss++List.replicate 80 mkS).flatMap Sv):=by
            rw [hw6]
            exact (owns_mono hos5 (show w.heap.size≤w4.heap.size by have:=hBw2.out.size;omega)).kept (grown_set' w5 wr.heap.size 5 _) (.inr (own_ne hos5 G5 (by decide)))
           have hok6:w6.ownsRow w.heap.size 3 1 (.slice (some ⟨gk,0,none⟩) (nd.kl+80) (nd.kl+80)) (nd.kl+80) ((nd.ks++List.replicate 80 (-77)).flatMap Iv):=by
            rw [hw6]
            have h5:=own_below HO4.out hb5'
            exact h5.kept (grown_set' w5 wr.heap.size 5 _) (.inr (own_ne h5 G5 (by decide)))
           have hb6:Below wr.heap.size wr w6:=by
            rw [hw6];exact (HB4.out.trans (hb5'.mono (by omega))).setCell (p:=⟨wr.heap.size,5,none⟩) (Nat.le_refl _) _
           rw [← hw6]
           obtain ⟨u,hu⟩:∃ u:Nd,u=⟨nd.op,nd.nm,nd.vk,nd.vn,nd.vt,some ⟨gs,0,none⟩,nd.sl,nd.sl+80,some ⟨gk,0,none⟩,nd.kl,nd.kl+80,nd.ks⟩:=⟨_,rfl⟩
           have hsl:ss.length=nd.sl:=HSS.out.1
           have hnew:WhoI w w6 u nd:=by
            rw [hu];exact ⟨rfl,rfl,rfl,rfl,rfl,rfl,rfl,rfl,rfl,rfl,hok6,ss,hsl,HSS.out,hos6⟩
           have ho:=own_below HO.out hb6
           obtain ⟨hf1,hz⟩:=fill2 us n k u HUS.out hlt
           have c0:=own_at Nd_len2 ho hz 0 _ rfl
           have f0:=ho.frozenAt (k * 7)
           have c1:=own_at Nd_len2 ho hz 1 _ rfl
           have f1:=ho.frozenAt (k * 7+1)
           have c2:=own_at Nd_len2 ho hz 2 _ rfl
           have f2:=ho.frozenAt (k * 7+2)
           have c3:=own_at Nd_len2 ho hz 3 _ rfl
           have f3:=ho.frozenAt (k * 7+3)
           have c4:=own_at Nd_len2 ho hz 4 _ rfl
           have f4:=ho.frozenAt (k * 7+4)
           have c5:=own_at Nd_len2 ho hz 5 _ rfl
           have f5:=ho.frozenAt (k * 7+5)
           have c6:=own_at Nd_len2 ho hz 6 _ rfl
           have f6:=ho.frozenAt (k * 7+6)
           have b0:=cell_of_row w6 _ 0 _ _ _ G6
           have b1:=cell_of_row w6 _ 1 _ _ _ G6
           have b2:=cell_of_row w6 _ 2 _ _ _ G6
           have b3:=cell_of_row w6 _ 3 _ _ _ G6
           have b4:=cell_of_row w6 _ 4 _ _ _ G6
           have b5:=cell_of_row w6 _ 5 _ _ _ G6
           have b6:=cell_of_row w6 _ 6 _ _ _ G6
           simp only [List.getElem?_toArray,List.getElem?_cons_zero,List.getElem?_cons_succ] at b0 b1 b2 b3 b4 b5 b6
           simp only [Nat.add_zero,markNd] at c0 c1 c2 c3 c4 c5 c6
           have hlenk:=(List.getElem?_eq_some_iff.1 hz).1
           obtain ⟨ho',hg'⟩:=own_chain (Nd.cs u) _ w6 (k * 7) ho
           rw [setList_flat Nd.cs 7 Nd_len2 _ k u hlenk,hf1] at ho'
           have hW:∀ (i:Nat) (u' nd':Nd),(us++[u])[i]?=some u'→ns[i]?=some nd'→WhoI w (setChain w6 B (k * 7) (Nd.cs u)) u' nd':=by
            intro i u' nd' hi hi2
            by_cases hik:i < k
            · rw [List.getElem?_append_left (by rw [HUS.out];exact hik)] at hi
              exact ((HWH.out i u' nd' hi hi2).below hb6).grown ho hg'
            · have hik2:i=k:=by
               have:=(List.getElem?_eq_some_iff.1 hi).1
               have h2:=HUS.out
               simp at this;omega
              subst hik2
              rw [List.getElem?_append_right (by rw [HUS.out];omega),HUS.out] at hi
              simp at hi
              rw [HND.out] at hi2
              obtain rfl:=Option.some.inj hi2
              subst hi
              exact hnew.grown ho hg'
           have hB6:Below B w (setChain w6 B (k * 7) (Nd.cs u)):=below_chain (Nat.le_refl B) (Nd.cs u) w6 (k * 7) (HBK.out.trans (hb6.mono (by have:=HBK.out.size;have:=HB.out;omega)))
           rw [hu] at ho' hW hB6
           have HO':=Lib.hid ho'
           have HW':=Lib.hid hW
           have HB':=Lib.hid hB6
           have hlt8:(k:Int) < (n:Int)+8:=by omega
           clear hw6 G6 hos6 hok6 hb6 hu hnew ho hf1 hz hlenk ho' hg' hW hB6 n55 f55 G5 hb5 hb5' hos5
           go_wp2
           refine ⟨?_,?measure⟩
           (repeat apply Exists.intro)
           refine ⟨?rel,rfl⟩
           case rel=>exact ⟨k+1,_,by omega,by go_num,by simp [HUS.out],HB'.out,HO'.out,HW'.out⟩
           case measure=>simp [intOf];omega
       · obtain ⟨w4,hw4⟩:∃ w4,w4=w3.setCell ⟨wr.heap.size,6,none⟩ (.slice (some ⟨gk,0,none⟩) nd.kl (nd.kl+80)):=⟨_,rfl⟩
         have hz3:wr.heap.size < w3.heap.size:=Nat.lt_of_lt_of_le hz2 hb3'.size
         have G4:w4.heap[wr.heap.size]?=some (.cells #[.int .i64 nd.op,.string nd.nm,.int .i64 nd.vk,.int .i64 nd.vn,.string nd.vt,.slice nd.sa nd.sl nd.sc,.slice (some ⟨gk,0,none⟩) nd.kl (nd.kl+80)] 56 (0,0)):=by
          rw [hw4];exact heap_setCell_same w3 wr.heap.size 6 _ _ _ G3
         have hok4:w4.ownsRow w.heap.size 3 1 (.slice (some ⟨gk,0,none⟩) (nd.kl+80) (nd.kl+80)) (nd.kl+80) ((nd.ks++List.replicate 80 (-77)).flatMap Iv):=by
          rw [hw4]
          exact (owns_mono hok3 (show w.heap.size≤w2.heap.size by have:=hBw2.out.size;omega)).kept (grown_set' w3 wr.heap.size 6 _) (.inr (own_ne hok3 G3 (by decide)))
         have hb4:Below wr.heap.size wr w4:=by
          rw [hw4];exact (HB2.out.trans (hb3'.mono (by omega))).setCell (p:=⟨wr.heap.size,6,none⟩) (Nat.le_refl _) _
         have hz4:wr.heap.size < w4.heap.size:=by rw [hw4];simpa using hz3
         rw [← hw4]
         have n5:=cell_of_row w4 _ 5 _ _ _ G4
         have f5:=frozen_of_row w4 _ 5 _ _ G4
         simp only [List.getElem?_toArray,List.getElem?_cons_zero,List.getElem?_cons_succ] at n5
         have S4:=Lib.hid (HSS.out.below (hBw2.out.trans (hb4.mono hBw2.out.size)).drew)
         have HG4:=Lib.hid G4
         have HB4:=Lib.hid hb4
         have HO4:=Lib.hid hok4
         clear hw4 G4 hb4 hok4 G3 n63 f63 hok3 hb3 hb3' hz3 n6 f6
         go_wp2_with fail
         go_region_law (first
          | (go_simp;go_at_call 37;refine (roomy_S w4.drew nd.sa nd.sl nd.sc ss mkS S4.out (by omega)).mono ?_;rintro e w5 ⟨gs,rfl,hos5,hb5⟩
             have hb5':Below w4.heap.size w4 w5:=(Below.refl _ _).drew.trans hb5
             have G5:=(hb5'.block wr.heap.size hz4).trans HG4.out
             have n55:=keepb hb5' n5
             have f55:=frozen_of_row w5 _ 5 _ _ G5))
         · clear n5 f5
           obtain ⟨w6,hw6⟩:∃ w6,w6=w5.setCell ⟨wr.heap.size,5,none⟩ (.slice (some ⟨gs,0,none⟩) nd.sl (nd.sl+80)):=⟨_,rfl⟩
           have G6:w6.heap[wr.heap.size]?=some (.cells #[.int .i64 nd.op,.string nd.nm,.int .i64 nd.vk,.int .i64 nd.vn,.string nd.vt,.slice (some ⟨gs,0,none⟩) nd.sl (nd.sl+80),.slice (some ⟨gk,0,none⟩) nd.kl (nd.kl+80)] 56 (0,0)):=by
            rw [hw6];exact heap_setCell_same w5 wr.heap.size 5 _ _ _ G5
           have hos6:w6.ownsRow w.heap.size 9 1 (.slice (some ⟨gs,0,none⟩) (nd.sl+80) (nd.sl+80)) (nd.sl+80) ((ss++List.replicate 80 mkS).flatMap Sv):=by
            rw [hw6]
            exact (owns_mono hos5 (show w.heap.size≤w4.heap.size by have:=hBw2.out.size;omega)).kept (grown_set' w5 wr.heap.size 5 _) (.inr (own_ne hos5 G5 (by decide)))
           have hok6:w6.ownsRow w.heap.size 3 1 (.slice (some ⟨gk,0,none⟩) (nd.kl+80) (nd.kl+80)) (nd.kl+80) ((nd.ks++List.replicate 80 (-77)).flatMap Iv):=by
            rw [hw6]
            have h5:=own_below HO4.out hb5'
            exact h5.kept (grown_set' w5 wr.heap.size 5 _) (.inr (own_ne h5 G5 (by decide)))
           have hb6:Below wr.heap.size wr w6:=by
            rw [hw6];exact (HB4.out.trans (hb5'.mono (by omega))).setCell (p:=⟨wr.heap.size,5,none⟩) (Nat.le_refl _) _
           rw [← hw6]
           obtain ⟨u,hu⟩:∃ u:Nd,u=⟨nd.op,nd.nm,nd.vk,nd.vn,nd.vt,some ⟨gs,0,none⟩,nd.sl,nd.sl+80,some ⟨gk,0,none⟩,nd.kl,nd.kl+80,nd.ks⟩:=⟨_,rfl⟩
           have hsl:ss.length=nd.sl:=HSS.out.1
           have hnew:WhoI w w6 u nd:=by
            rw [hu];exact ⟨rfl,rfl,rfl,rfl,rfl,rfl,rfl,rfl,rfl,rfl,hok6,ss,hsl,HSS.out,hos6⟩
           have ho:=own_below HO.out hb6
           obtain ⟨hf1,hz⟩:=fill2 us n k u HUS.out hlt
           have c0:=own_at Nd_len2 ho hz 0 _ rfl
           have f0:=ho.frozenAt (k * 7)
           have c1:=own_at Nd_len2 ho hz 1 _ rfl
           have f1:=ho.frozenAt (k * 7+1)
           have c2:=own_at Nd_len2 ho hz 2 _ rfl
           have f2:=ho.frozenAt (k * 7+2)
           have c3:=own_at Nd_len2 ho hz 3 _ rfl
           have f3:=ho.frozenAt (k * 7+3)
           have c4:=own_at Nd_len2 ho hz 4 _ rfl
           have f4:=ho.frozenAt (k * 7+4)
           have c5:=own_at Nd_len2 ho hz 5 _ rfl
           have f5:=ho.frozenAt (k * 7+5)
           have c6:=own_at Nd_len2 ho hz 6 _ rfl
           have f6:=ho.frozenAt (k * 7+6)
           have b0:=cell_of_row w6 _ 0 _ _ _ G6
           have b1:=cell_of_row w6 _ 1 _ _ _ G6
           have b2:=cell_of_row w6 _ 2 _ _ _ G6
           have b3:=cell_of_row w6 _ 3 _ _ _ G6
           have b4:=cell_of_row w6 _ 4 _ _ _ G6
           have b5:=cell_of_row w6 _ 5 _ _ _ G6
           have b6:=cell_of_row w6 _ 6 _ _ _ G6
           simp only [List.getElem?_toArray,List.getElem?_cons_zero,List.getElem?_cons_succ] at b0 b1 b2 b3 b4 b5 b6
           simp only [Nat.add_zero,markNd] at c0 c1 c2 c3 c4 c5 c6
           have hlenk:=(List.getElem?_eq_some_iff.1 hz).1
           obtain ⟨ho',hg'⟩:=own_chain (Nd.cs u) _ w6 (k * 7) ho
           rw [setList_flat Nd.cs 7 Nd_len2 _ k u hlenk,hf1] at ho'
           have hW:∀ (i:Nat) (u' nd':Nd),(us++[u])[i]?=some u'→ns[i]?=some nd'→WhoI w (setChain w6 B (k * 7) (Nd.cs u)) u' nd':=by
            intro i u' nd' hi hi2
            by_cases hik:i < k
            · rw [List.getElem?_append_left (by rw [HUS.out];exact hik)] at hi
              exact ((HWH.out i u' nd' hi hi2).below hb6).grown ho hg'
            · have hik2:i=k:=by
               have:=(List.getElem?_eq_some_iff.1 hi).1
               have h2:=HUS.out
               simp at this;omega
              subst hik2
              rw [List.getElem?_append_right (by rw [HUS.out];omega),HUS.out] at hi
              simp at hi
              rw [HND.out] at hi2
              obtain rfl:=Option.some.inj hi2
              subst hi
              exact hnew.grown ho hg'
           have hB6:Below B w (setChain w6 B (k * 7) (Nd.cs u)):=below_chain (Nat.le_refl B) (Nd.cs u) w6 (k * 7) (HBK.out.trans (hb6.mono (by have:=HBK.out.size;have:=HB.out;omega)))
           rw [hu] at ho' hW hB6
           have HO':=Lib.hid ho'
           have HW':=Lib.hid hW
           have HB':=Lib.hid hB6
           have hlt8:(k:Int) < (n:Int)+8:=by omega
           clear hw6 G6 hos6 hok6 hb6 hu hnew ho hf1 hz hlenk ho' hg' hW hB6 n55 f55 G5 hb5 hb5' hos5
           go_wp2
           refine ⟨?_,?measure⟩
           (repeat apply Exists.intro)
           refine ⟨?rel,rfl⟩
           case rel=>exact ⟨k+1,_,by omega,by go_num,by simp [HUS.out],HB'.out,HO'.out,HW'.out⟩
           case measure=>simp [intOf];omega
         · clear n5 f5
           obtain ⟨w6,hw6⟩:∃ w6,w6=w5.setCell ⟨wr.heap.size,5,none⟩ (.slice (some ⟨gs,0,none⟩) nd.sl (nd.sl+80)):=⟨_,rfl⟩
           have G6:w6.heap[wr.heap.size]?=some (.cells #[.int .i64 nd.op,.string nd.nm,.int .i64 nd.vk,.int .i64 nd.vn,.string nd.vt,.slice (some ⟨gs,0,none⟩) nd.sl (nd.sl+80),.slice (some ⟨gk,0,none⟩) nd.kl (nd.kl+80)] 56 (0,0)):=by
            rw [hw6];exact heap_setCell_same w5 wr.heap.size 5 _ _ _ G5
           have hos6:w6.ownsRow w.heap.size 9 1 (.slice (some ⟨gs,0,none⟩) (nd.sl+80) (nd.sl+80)) (nd.sl+80) ((ss++List.replicate 80 mkS).flatMap Sv):=by
            rw [hw6]
            exact (owns_mono hos5 (show w.heap.size≤w4.heap.size by have:=hBw2.out.size;omega)).kept (grown_set' w5 wr.heap.size 5 _) (.inr (own_ne hos5 G5 (by decide)))
           have hok6:w6.ownsRow w.heap.size 3 1 (.slice (some ⟨gk,0,none⟩) (nd.kl+80) (nd.kl+80)) (nd.kl+80) ((nd.ks++List.replicate 80 (-77)).flatMap Iv):=by
            rw [hw6]
            have h5:=own_below HO4.out hb5'
            exact h5.kept (grown_set' w5 wr.heap.size 5 _) (.inr (own_ne h5 G5 (by decide)))
           have hb6:Below wr.heap.size wr w6:=by
            rw [hw6];exact (HB4.out.trans (hb5'.mono (by omega))).setCell (p:=⟨wr.heap.size,5,none⟩) (Nat.le_refl _) _
           rw [← hw6]
           obtain ⟨u,hu⟩:∃ u:Nd,u=⟨nd.op,nd.nm,nd.vk,nd.vn,nd.vt,some ⟨gs,0,none⟩,nd.sl,nd.sl+80,some ⟨gk,0,none⟩,nd.kl,nd.kl+80,nd.ks⟩:=⟨_,rfl⟩
           have hsl:ss.length=nd.sl:=HSS.out.1
           have hnew:WhoI w w6 u nd:=by
            rw [hu];exact ⟨rfl,rfl,rfl,rfl,rfl,rfl,rfl,rfl,rfl,rfl,hok6,ss,hsl,HSS.out,hos6⟩
           have ho:=own_below HO.out hb6
           obtain ⟨hf1,hz⟩:=fill2 us n k u HUS.out hlt
           have c0:=own_at Nd_len2 ho hz 0 _ rfl
           have f0:=ho.frozenAt (k * 7)
           have c1:=own_at Nd_len2 ho hz 1 _ rfl
           have f1:=ho.frozenAt (k * 7+1)
           have c2:=own_at Nd_len2 ho hz 2 _ rfl
           have f2:=ho.frozenAt (k * 7+2)
           have c3:=own_at Nd_len2 ho hz 3 _ rfl
           have f3:=ho.frozenAt (k * 7+3)
           have c4:=own_at Nd_len2 ho hz 4 _ rfl
           have f4:=ho.frozenAt (k * 7+4)
           have c5:=own_at Nd_len2 ho hz 5 _ rfl
           have f5:=ho.frozenAt (k * 7+5)
           have c6:=own_at Nd_len2 ho hz 6 _ rfl
           have f6:=ho.frozenAt (k * 7+6)
           have b0:=cell_of_row w6 _ 0 _ _ _ G6
           have b1:=cell_of_row w6 _ 1 _ _ _ G6
           have b2:=cell_of_row w6 _ 2 _ _ _ G6
           have b3:=cell_of_row w6 _ 3 _ _ _ G6
           have b4:=cell_of_row w6 _ 4 _ _ _ G6
           have b5:=cell_of_row w6 _ 5 _ _ _ G6
           have b6:=cell_of_row w6 _ 6 _ _ _ G6
           simp only [List.getElem?_toArray,List.getElem?_cons_zero,List.getElem?_cons_succ] at b0 b1 b2 b3 b4 b5 b6
           simp only [Nat.add_zero,markNd] at c0 c1 c2 c3 c4 c5 c6
           have hlenk:=(List.getElem?_eq_some_iff.1 hz).1
           obtain ⟨ho',hg'⟩:=own_chain (Nd.cs u) _ w6 (k * 7) ho
           rw [setList_flat Nd.cs 7 Nd_len2 _ k u hlenk,hf1] at ho'
           have hW:∀ (i:Nat) (u' nd':Nd),(us++[u])[i]?=some u'→ns[i]?=some nd'→WhoI w (setChain w6 B (k * 7) (Nd.cs u)) u' nd':=by
            intro i u' nd' hi hi2
            by_cases hik:i < k
            · rw [List.getElem?_append_left (by rw [HUS.out];exact hik)] at hi
              exact ((HWH.out i u' nd' hi hi2).below hb6).grown ho hg'
            · have hik2:i=k:=by
               have:=(List.getElem?_eq_some_iff.1 hi).1
               have h2:=HUS.out
               simp at this;omega
              subst hik2
              rw [List.getElem?_append_right (by rw [HUS.out];omega),HUS.out] at hi
              simp at hi
              rw [HND.out] at hi2
              obtain rfl:=Option.some.inj hi2
              subst hi
              exact hnew.grown ho hg'
           have hB6:Below B w (setChain w6 B (k * 7) (Nd.cs u)):=below_chain (Nat.le_refl B) (Nd.cs u) w6 (k * 7) (HBK.out.trans (hb6.mono (by have:=HBK.out.size;have:=HB.out;omega)))
           rw [hu] at ho' hW hB6
           have HO':=Lib.hid ho'
           have HW':=Lib.hid hW
           have HB':=Lib.hid hB6
           have hlt8:(k:Int) < (n:Int)+8:=by omega
           clear hw6 G6 hos6 hok6 hb6 hu hnew ho hf1 hz hlenk ho' hg' hW hB6 n55 f55 G5 hb5 hb5' hos5
           go_wp2
           refine ⟨?_,?measure⟩
           (repeat apply Exists.intro)
           refine ⟨?rel,rfl⟩
           case rel=>exact ⟨k+1,_,by omega,by go_num,by simp [HUS.out],HB'.out,HO'.out,HW'.out⟩
           case measure=>simp [intOf];omega
         · clear n5 f5
           obtain ⟨w6,hw6⟩:∃ w6,w6=w5.setCell ⟨wr.heap.size,5,none⟩ (.slice (some ⟨gs,0,none⟩) nd.sl (nd.sl+80)):=⟨_,rfl⟩
           have G6:w6.heap[wr.heap.size]?=some (.cells #[.int .i64 nd.op,.string nd.nm,.int .i64 nd.vk,.int .i64 nd.vn,.string nd.vt,.slice (some ⟨gs,0,none⟩) nd.sl (nd.sl+80),.slice (some ⟨gk,0,none⟩) nd.kl (nd.kl+80)] 56 (0,0)):=by
            rw [hw6];exact heap_setCell_same w5 wr.heap.size 5 _ _ _ G5
           have hos6:w6.ownsRow w.heap.size 9 1 (.slice (some ⟨gs,0,none⟩) (nd.sl+80) (nd.sl+80)) (nd.sl+80) ((ss++List.replicate 80 mkS).flatMap Sv):=by
            rw [hw6]
            exact (owns_mono hos5 (show w.heap.size≤w4.heap.size by have:=hBw2.out.size;omega)).kept (grown_set' w5 wr.heap.size 5 _) (.inr (own_ne hos5 G5 (by decide)))
           have hok6:w6.ownsRow w.heap.size 3 1 (.slice (some ⟨gk,0,none⟩) (nd.kl+80) (nd.kl+80)) (nd.kl+80) ((nd.ks++List.replicate 80 (-77)).flatMap Iv):=by
            rw [hw6]
            have h5:=own_below HO4.out hb5'
            exact h5.kept (grown_set' w5 wr.heap.size 5 _) (.inr (own_ne h5 G5 (by decide)))
           have hb6:Below wr.heap.size wr w6:=by
            rw [hw6];exact (HB4.out.trans (hb5'.mono (by omega))).setCell (p:=⟨wr.heap.size,5,none⟩) (Nat.le_refl _) _
           rw [← hw6]
           obtain ⟨u,hu⟩:∃ u:Nd,u=⟨nd.op,nd.nm,nd.vk,nd.vn,nd.vt,some ⟨gs,0,none⟩,nd.sl,nd.sl+80,some ⟨gk,0,none⟩,nd.kl,nd.kl+80,nd.ks⟩:=⟨_,rfl⟩
           have hsl:ss.length=nd.sl:=HSS.out.1
           have hnew:WhoI w w6 u nd:=by
            rw [hu];exact ⟨rfl,rfl,rfl,rfl,rfl,rfl,rfl,rfl,rfl,rfl,hok6,ss,hsl,HSS.out,hos6⟩
           have ho:=own_below HO.out hb6
           obtain ⟨hf1,hz⟩:=fill2 us n k u HUS.out hlt
           have c0:=own_at Nd_len2 ho hz 0 _ rfl
           have f0:=ho.frozenAt (k * 7)
           have c1:=own_at Nd_len2 ho hz 1 _ rfl
           have f1:=ho.frozenAt (k * 7+1)
           have c2:=own_at Nd_len2 ho hz 2 _ rfl
           have f2:=ho.frozenAt (k * 7+2)
           have c3:=own_at Nd_len2 ho hz 3 _ rfl
           have f3:=ho.frozenAt (k * 7+3)
           have c4:=own_at Nd_len2 ho hz 4 _ rfl
           have f4:=ho.frozenAt (k * 7+4)
           have c5:=own_at Nd_len2 ho hz 5 _ rfl
           have f5:=ho.frozenAt (k * 7+5)
           have c6:=own_at Nd_len2 ho hz 6 _ rfl
           have f6:=ho.frozenAt (k * 7+6)
           have b0:=cell_of_row w6 _ 0 _ _ _ G6
           have b1:=cell_of_row w6 _ 1 _ _ _ G6
           have b2:=cell_of_row w6 _ 2 _ _ _ G6
           have b3:=cell_of_row w6 _ 3 _ _ _ G6
           have b4:=cell_of_row w6 _ 4 _ _ _ G6
           have b5:=cell_of_row w6 _ 5 _ _ _ G6
           have b6:=cell_of_row w6 _ 6 _ _ _ G6
           simp only [List.getElem?_toArray,List.getElem?_cons_zero,List.getElem?_cons_succ] at b0 b1 b2 b3 b4 b5 b6
           simp only [Nat.add_zero,markNd] at c0 c1 c2 c3 c4 c5 c6
           have hlenk:=(List.getElem?_eq_some_iff.1 hz).1
           obtain ⟨ho',hg'⟩:=own_chain (Nd.cs u) _ w6 (k * 7) ho
           rw [setList_flat Nd.cs 7 Nd_len2 _ k u hlenk,hf1] at ho'
           have hW:∀ (i:Nat) (u' nd':Nd),(us++[u])[i]?=some u'→ns[i]?=some nd'→WhoI w (setChain w6 B (k * 7) (Nd.cs u)) u' nd':=by
            intro i u' nd' hi hi2
            by_cases hik:i < k
            · rw [List.getElem?_append_left (by rw [HUS.out];exact hik)] at hi
              exact ((HWH.out i u' nd' hi hi2).below hb6).grown ho hg'
            · have hik2:i=k:=by
               have:=(List.getElem?_eq_some_iff.1 hi).1
               have h2:=HUS.out
               simp at this;omega
              subst hik2
              rw [List.getElem?_append_right (by rw [HUS.out];omega),HUS.out] at hi
              simp at hi
              rw [HND.out] at hi2
              obtain rfl:=Option.some.inj hi2
              subst hi
              exact hnew.grown ho hg'
           have hB6:Below B w (setChain w6 B (k * 7) (Nd.cs u)):=below_chain (Nat.le_refl B) (Nd.cs u) w6 (k * 7) (HBK.out.trans (hb6.mono (by have:=HBK.out.size;have:=HB.out;omega)))
           rw [hu] at ho' hW hB6
           have HO':=Lib.hid ho'
           have HW':=Lib.hid hW
           have HB':=Lib.hid hB6
           have hlt8:(k:Int) < (n:Int)+8:=by omega
           clear hw6 G6 hos6 hok6 hb6 hu hnew ho hf1 hz hlenk ho' hg' hW hB6 n55 f55 G5 hb5 hb5' hos5
           go_wp2
           refine ⟨?_,?measure⟩
           (repeat apply Exists.intro)
           refine ⟨?rel,rfl⟩
           case rel=>exact ⟨k+1,_,by omega,by go_num,by simp [HUS.out],HB'.out,HO'.out,HW'.out⟩
           case measure=>simp [intOf];omega
     · have hltI:¬ (k:Int) < (n:Int):=by omega
       obtain rfl:k=n:=by omega
       go_wp2
       go_ret
       exact ⟨⟨B,us,rfl,HUS.out,by have:=HO.out;rw [show k+8 - k=8 by omega] at this;rw [← HB.out];exact this,HWH.out⟩,by rw [← HB.out];exact HBK.out⟩
theorem Who.same {w:World} {B:Nat} {u nd:Nd} (h:Who w B u nd) (hok:nd.ok w) (h1:nd.kl≤20000) (h2:nd.sl≤20000):SameNd w u nd:=by
 obtain ⟨e1,e2,e3,e4,e5,e6,e7,e8,e9,e10,hk,ss,hsl,hs,ho⟩:=h
 have a1:=(RS.of_owns hk (by decide) Iv_len (by omega)).cut
 have a2:=(RS.of_owns ho (by decide) Sv_len (by omega)).cut
 rw [hok.1.1] at a1
 rw [hsl] at a2
 exact ⟨e1,e2,e3,e4,e5,e6,e7,e8,by rw [e7,e8,e9];exact a1,hok.1,ss,by rw [e6,e10];exact a2,hs⟩
theorem SameNd.mark (w:World):SameNd w markNd markNd:=⟨rfl,rfl,rfl,rfl,rfl,rfl,rfl,rfl,⟨rfl,Nat.le_refl _,by show (0:Nat)≤_;omega,fun i x h=>by simp [markNd] at h⟩,⟨rfl,Nat.le_refl _,by show (0:Nat)≤_;omega,fun i x h=>by simp [markNd] at h⟩,[],⟨rfl,Nat.le_refl _,by show (0:Nat)≤_;omega,fun i x h=>by simp at h⟩,⟨rfl,Nat.le_refl _,by show (0:Nat)≤_;omega,fun i x h=>by simp at h⟩⟩
theorem RS.behind {α:Type} {s:Nat} {enc:α→List Value} {w:World} {g n c m:Nat} {xs ys:List α} (h:RS s enc w (some ⟨g,0,Option.none⟩) n c (xs++ys)) (hx:xs.length=m) (hc:n≤c):RS s enc w (some ⟨g,m * s,Option.none⟩) ys.length (c - m) ys:=by
 obtain ⟨h1,h2,h3,h4⟩:=h
 rw [List.length_append] at h1
 refine ⟨rfl,by omega,by omega,fun i x hi=>⟨g,m * s,rfl,fun j v hv=>?_⟩⟩
 obtain ⟨b,off,e,hcl⟩:=h4 (m+i) x (by rw [List.getElem?_append_right (by omega),hx,Nat.add_sub_cancel_left];exact hi)
 cases e
 have:=hcl j v hv
 rwa [Nat.zero_add,Nat.add_mul] at this
theorem left_any (w:World) (B g n:Nat) (us ns:List Nd) (hrow:w.ownsRow B 56 7 (.slice (some ⟨g,0,none⟩) (n+8) (n+8)) (n+8) ((us++List.replicate 8 markNd).flatMap Nd.cs)) (hus:us.length=n) (na:Option Addr) (nc:Nat) (hr:RS 7 Nd.cs w na n nc ns) (hok:∀ nd ∈ ns,nd.okS w)
 (hwho:∀ (i:Nat) (u nd:Nd),us[i]?=some u→ns[i]?=some nd→Who w B u nd) (hn:n≤5000) (hsm:∀ nd ∈ ns,nd.kl≤20000∧nd.sl≤20000) :
 Calls Tryz.prog 23 #[.slice (some ⟨g,0,none⟩) n (n+8),.slice na n nc] w fun e w'=>e=.returned (.bool true)∧Below w.heap.size w w':=by
 have hfull:RS 7 Nd.cs w (some ⟨g,0,none⟩) (n+8) (n+8) (us++List.replicate 8 markNd):=RS.of_owns hrow (by decide) Nd_len2 (by omega)
 have hu:RS 7 Nd.cs w (some ⟨g,0,none⟩) n (n+8) us:=by have:=hfull.cut;rwa [hus] at this
 have hbeh:=hfull.behind hus (Nat.le_refl _)
 rw [show (List.replicate 8 markNd).length=8 from rfl,show n+8 - n=8 by omega] at hbeh
 have HU:=Lib.hid hu
 have HR:=Lib.hid hr
 have HBE:=Lib.hid hbeh
 have HOK:=Lib.hid hok
 have HW:=Lib.hid hwho
 have HSM:=Lib.hid hsm
 have HSN:=Lib.hid (fun (i:Nat) (u nd:Nd) (h1:us[i]?=some u) (h2:ns[i]?=some nd)=>(hwho i u nd h1 h2).same (hok nd (List.mem_of_getElem? h2)).1 (hsm nd (List.mem_of_getElem? h2)).1 (hsm nd (List.mem_of_getElem? h2)).2)
 clear hrow hfull hu hr hbeh hok hwho hsm
 go_enter Tryz.func23,Tryz.ntmps23
 go_wp2_with (first | (go_at_call 43;refine (alikeN_any w (some ⟨g,0,none⟩) n (n+8) us HU.out na nc ns HR.out HSN.out).mono ?_;rintro e w1 ⟨rfl,hb1⟩))
 have HB1:=Lib.hid hb1
 clear hb1
 go_loopw [5] (fun i wr=>∃ k:Nat,k≤n∧i=.int .i64 k∧Below w.heap.size w wr) (fun i _=>n - (intOf i).toNat)
 case atStart=>exact ⟨0,by omega,rfl,HB1.out⟩
 case round =>
  obtain ⟨k,hk,rfl,hb⟩:=hrel
  have HB:=Lib.hid hb
  clear hb
  by_cases hlt:k < n
  · have hltI:(k:Int) < (n:Int):=by omega
    obtain ⟨xa,xo,u,hga,hu,hcx⟩:=HU.out.at hlt
    cases hga
    obtain ⟨ya,yo,nd,rfl,hnd,hcy⟩:=HR.out.at hlt
    have x5:=(HB.out.cell (p:=⟨g,0+k * 7+5,none⟩) (block_lt_of_cell (hcx 5 _ rfl))).trans (hcx 5 _ rfl)
    have x6:=(HB.out.cell (p:=⟨g,0+k * 7+6,none⟩) (block_lt_of_cell (hcx 6 _ rfl))).trans (hcx 6 _ rfl)
    have y5:=(HB.out.cell (p:=⟨ya,yo+k * 7+5,none⟩) (block_lt_of_cell (hcy 5 _ rfl))).trans (hcy 5 _ rfl)
    have y6:=(HB.out.cell (p:=⟨ya,yo+k * 7+6,none⟩) (block_lt_of_cell (hcy 6 _ rfl))).trans (hcy 6 _ rfl)
    obtain ⟨e1,e2,e3,e4,e5,e6,e7,e8,e9,e10,hkk,ss,hsl,hss,hoo⟩:=(HW.out k u nd hu hnd).below HB.out
    have hsm1:nd.kl≤20000:=(HSM.out nd (List.mem_of_getElem? hnd)).1
    have hsm2:nd.sl≤20000:=(HSM.out nd (List.mem_of_getElem? hnd)).2
    have hk2:=Lib.hid ((HOK.out nd (List.mem_of_getElem? hnd)).1.1.below HB.out)
    have hI:=Lib.hid (RS.of_owns hkk (by decide) Iv_len (by omega))
    have hS:=Lib.hid (RS.of_owns hoo (by decide) Sv_len (by omega))
    have hS2:=Lib.hid hss
    rw [e6,e10] at x5
    rw [e7,e9] at x6
    simp only [Nat.zero_add] at x5 x6
    have hle1:(nd.kl:Int)≤(nd.kl:Int)+80:=by omega
    have hle2:(nd.sl:Int)≤(nd.sl:Int)+80:=by omega
    have hw1:IntKind.i64.wrap ((nd.kl:Int)+80)=(nd.kl:Int)+80:=by simp [IntKind.wrap,IntKind.bits,IntKind.signed];omega
    have hw2:IntKind.i64.wrap ((nd.sl:Int)+80)=(nd.sl:Int)+80:=by simp [IntKind.wrap,IntKind.bits,IntKind.signed];omega
    have hp1:(0:Int)≤(nd.kl:Int)+80:=by omega
    have hp2:(0:Int)≤(nd.sl:Int)+80:=by omega
    have hz1:(0:Int)≤(k:Int):=by omega
    clear hcx hcy hu hnd e1 e2 e3 e4 e5 e6 e7 e8 e9 e10 hkk hss hoo hsl
    go_wp2_with fail
    go_region_held3 (fun w'=>w'.cell? ⟨ya,yo+k * 7+5,none⟩=some (.slice nd.sa nd.sl nd.sc)∧w'.cell? ⟨ya,yo+k * 7+6,none⟩=some (.slice nd.ka nd.kl nd.kc))
     (first | exact ⟨y5,y6⟩ | exact ⟨keepb hb2 y5,keepb hb2 y6⟩ | exact ⟨keepb hb3 (keepb hb2 y5),keepb hb3 (keepb hb2 y6)⟩)
     (first
       | (go_at_call 45;refine (intact_I wr.drew u.ka nd.kl (nd.kl+80) nd.ks (-77) hI.out nd.ka nd.kc hk2.out (by omega)).mono ?_;rintro e w2 ⟨rfl,hb2⟩)
       | (go_at_call 38;refine (intact_S w2 u.sa nd.sl (nd.sl+80) ss mkS (hS.out.below (show Below wr.heap.size wr w2 from (Below.refl _ _).drew.trans hb2)) nd.sa nd.sc (hS2.out.below (show Below wr.heap.size wr w2 from (Below.refl _ _).drew.trans hb2)) (by omega)).mono ?_;rintro e w3 ⟨rfl,hb3⟩))
    have HB3:=Lib.hid (HB.out.trans ((show Below wr.heap.size wr w3 from (show Below wr.heap.size wr w2 from (Below.refl _ _).drew.trans hb2).trans (hb3.mono hb2.size)).mono HB.out.size))
    clear hb2 hb3
    go_wp2
    go_roundw
    case rel=>exact ⟨k+1,by omega,by go_num,HB3.out⟩
    case measure=>simp [intOf];omega
  · have hltI:¬ (k:Int) < (n:Int):=by omega
    have hq1:(n:Int)≤(n:Int)+8:=by omega
    go_wp2_with fail
    go_loopw [9] (fun i wr=>∃ j:Nat,j≤8∧i=.int .i64 j∧Below w.heap.size w wr) (fun i _=>8 - (intOf i).toNat)
    case atStart=>exact ⟨0,by omega,rfl,HB.out⟩
    case round =>
     obtain ⟨j,hj,rfl,hb⟩:=hrel
     have HB4:=Lib.hid hb
     clear hb
     by_cases hlj:j < 8
     · have hljI:(j:Int) < 8:=by omega
       obtain ⟨xa,xo,z,hga,hz,hcz⟩:=HBE.out.at hlj
       cases hga
       obtain rfl:z=markNd:=by rw [List.getElem?_replicate,if_pos hlj] at hz;exact (Option.some.inj hz).symm
       have z0:=(HB4.out.cell (p:=⟨g,n * 7+j * 7+0,none⟩) (block_lt_of_cell (hcz 0 _ rfl))).trans (hcz 0 _ rfl)
       have z1:=(HB4.out.cell (p:=⟨g,n * 7+j * 7+1,none⟩) (block_lt_of_cell (hcz 1 _ rfl))).trans (hcz 1 _ rfl)
       have z2:=(HB4.out.cell (p:=⟨g,n * 7+j * 7+2,none⟩) (block_lt_of_cell (hcz 2 _ rfl))).trans (hcz 2 _ rfl)
       have z3:=(HB4.out.cell (p:=⟨g,n * 7+j * 7+3,none⟩) (block_lt_of_cell (hcz 3 _ rfl))).trans (hcz 3 _ rfl)
       have z4:=(HB4.out.cell (p:=⟨g,n * 7+j * 7+4,none⟩) (block_lt_of_cell (hcz 4 _ rfl))).trans (hcz 4 _ rfl)
       have z5:=(HB4.out.cell (p:=⟨g,n * 7+j * 7+5,none⟩) (block_lt_of_cell (hcz 5 _ rfl))).trans (hcz 5 _ rfl)
       have z6:=(HB4.out.cell (p:=⟨g,n * 7+j * 7+6,none⟩) (block_lt_of_cell (hcz 6 _ rfl))).trans (hcz 6 _ rfl)
       simp only [Nat.add_zero,markNd] at z0 z1 z2 z3 z4 z5 z6
       clear hcz hz
       go_wp2_with fail
       go_region_held3 (fun w'=>w'.cell? ⟨g,n * 7+j * 7,none⟩=some (.int .i64 (-77))∧w'.cell? ⟨g,n * 7+j * 7+1,none⟩=some (.string ByteArray.empty)∧w'.cell? ⟨g,n * 7+j * 7+2,none⟩=some (.int .i64 0)∧w'.cell? ⟨g,n * 7+j * 7+3,none⟩=some (.int .i64 0)∧w'.cell? ⟨g,n * 7+j * 7+4,none⟩=some (.string ByteArray.empty)∧w'.cell? ⟨g,n * 7+j * 7+5,none⟩=some (.slice none 0 0)∧w'.cell? ⟨g,n * 7+j * 7+6,none⟩=some (.slice none 0 0))
        (first | exact ⟨z0,z1,z2,z3,z4,z5,z6⟩ | exact ⟨keepb hb5 z0,keepb hb5 z1,keepb hb5 z2,keepb hb5 z3,keepb hb5 z4,keepb hb5 z5,keepb hb5 z6⟩ | exact ⟨keepb hb6 (keepb hb5 z0),keepb hb6 (keepb hb5 z1),keepb hb6 (keepb hb5 z2),keepb hb6 (keepb hb5 z3),keepb hb6 (keepb hb5 z4),keepb hb6 (keepb hb5 z5),keepb hb6 (keepb hb5 z6)⟩)
        (first
          | (go_at_call 39;refine (nodemark_any _).mono ?_;rintro e w5 ⟨rfl,hb5⟩)
          | (go_at_call 44;refine (samenode_any' w5 markNd markNd (SameNd.mark w5)).mono ?_;rintro e w6 ⟨rfl,hb6⟩))
       have HB6:=Lib.hid (HB4.out.trans ((show Below wr.heap.size wr w6 from (show Below wr.heap.size wr w5 from (Below.refl _ _).drew.trans hb5).trans (hb6.mono hb5.size)).mono HB4.out.size))
       clear hb5 hb6
       go_wp2
       go_roundw
       case rel=>exact ⟨j+1,by omega,by go_num,HB6.out⟩
       case measure=>simp [intOf];omega
     · have hljI:¬ (j:Int) < 8:=by omega
       go_wp2
       go_ret
       exact ⟨rfl,HB4.out⟩
end Go.Proofs.YtcnckjlmldnblaaGreatDoor
