import Derived.Test.YtcnckjlmldnblaaGreatDoorE4
import Derived.Sort.OwnSorted
import Derived.Test.YtcnckjlmldnblaaGreatDoorShelf
namespace Go.Proofs.YtcnckjlmldnblaaGreatDoor
open Go Go.RowKit
set_option maxRecDepth 100000
set_option maxHeartbeats 4000000
set_option linter.unusedVariables false
set_option linter.unusedSimpArgs false
open Go.Sort
/-- Bytes as a text. -/
abbrev toBA (l:List UInt8):ByteArray:=⟨l.toArray⟩
theorem enc_map (ts:List (List UInt8)):ts.map encStr=(ts.map toBA).flatMap Sv:=by rw [flat_sv,List.map_map];rfl
theorem back_map (xs:List ByteArray):(xs.map fun b=>b.data.toList).map toBA=xs:=by
 rw [List.map_map]
 conv=>rhs;rw [← List.map_id xs]
 rfl
def sortS (xs:List ByteArray):List (List UInt8):=(xs.map fun b=>b.data.toList).mergeSort fun x y=>decide (x≤y)
theorem sort_any (w:World) (B:Nat) (a:Option Addr) (n c:Nat) (xs:List ByteArray) (ho:w.ownsRow B 9 1 (.slice a n c) n (xs.flatMap Sv)) (hn:n < 4611686018427387904) :
 Calls Tryz.prog 93 #[.slice a n c] w fun e w'=>e=.returned (.tuple #[])∧w'.ownsRow B 9 1 (.slice a n c) n ((sortS xs).map encStr)∧w.grownBy w' (Value.slice a n c).ownBlock:=by
 have hl:xs.length=n:=by have:=ho.1;rw [flat_len Sv 1 Sv_len] at this;omega
 have hls:(sortS xs).length=n:=by simp [sortS,hl]
 have he:xs.flatMap Sv=(xs.map fun b=>b.data.toList).map encStr:=by rw [enc_map,back_map]
 rcases ho.2 with ⟨hv,h0⟩ | ⟨g,cap,cur,hv,hB,hb,h1,h2,h3,h4⟩
 · cases hv
   have:xs=[]:=List.eq_nil_of_length_eq_zero (by omega)
   subst this
   refine (Tryz.slices_Sort_string_none _ _ _).mono ?_
   rintro e w' ⟨rfl,rfl⟩
   exact ⟨rfl,by simpa [sortS] using World.ownsRow_nil _ _ _ _,rfl,rfl,rfl,Nat.le_refl _,fun _ _ _=>rfl⟩
 · cases hv
   rw [he] at h4
   have hh:=holds_of_block hb (ss:=xs.map fun b=>b.data.toList) (by simpa [hl] using h4)
   have hg:=(Array.getElem?_eq_some_iff.1 hb).1
   have hc:=Tryz.slices_Sort_string g 0 c (xs.map fun b=>b.data.toList) w hh hg (by simp only [List.length_map,hl];exact hn)
   simp only [List.length_map,hl] at hc
   refine hc.mono ?_
   rintro e w' ⟨rfl,m,os,rfl⟩
   refine ⟨rfl,?_,grownBy_sorted _⟩
   have:=ownsRow_sorted (n:=m) (os:=os) (ss:=xs.map fun b=>b.data.toList) (ts:=sortS xs) (by simp [hls,hl]) hB hb (by simpa [hl] using h1) h2 h3
   simp only [List.length_map,hl] at this
   exact this
theorem own_take {w:World} {B e s n c k:Nat} {a:Option Addr} {xs:List Value} (h:w.ownsRow B e s (.slice a n c) n xs) (hk:k≤n) (ha:a ≠ none):w.ownsRow B e s (.slice a k c) k (xs.take (k * s)):=by
 have hks:k * s≤n * s:=Nat.mul_le_mul_right s hk
 refine ⟨by rw [List.length_take,h.1];omega,?_⟩
 rcases h.2 with ⟨hv,h0⟩ | ⟨g,cap,cur,hv,hB,hb,h1,h2,h3,h4⟩
 · cases hv;exact absurd rfl ha
 · cases hv
   exact .inr ⟨g,c,cur,rfl,hB,hb,by omega,h2,h3,by rw [← h4,List.take_take,Nat.min_eq_left hks]⟩
theorem compactUpTo_le (d:Array (List UInt8)) (m:Nat):(Lib.compactUpTo d m).length≤m:=by
 unfold Lib.compactUpTo
 rw [List.length_map]
 exact Nat.le_trans (List.length_filter_le _ _) (by simp)
theorem compact_any (w:World) (B:Nat) (a:Option Addr) (n c:Nat) (zs:List (List UInt8)) (ho:w.ownsRow B 9 1 (.slice a n c) n (zs.map encStr)) (hn:n < 4611686018427387904) :
 Calls Tryz.prog 94 #[.slice a n c] w fun e w'=>∃ k c',k=(Lib.compact zs).length∧e=.returned (.slice a k c')∧w'.ownsRow B 9 1 (.slice a k c') k ((Lib.compact zs).map encStr)∧w.grownBy w' (Value.slice a n c).ownBlock:=by
 have hl:zs.length=n:=by have:=ho.1;rw [List.length_map] at this;omega
 rcases ho.2 with ⟨hv,h0⟩ | ⟨g,cap,cur,hv,hB,hb,h1,h2,h3,h4⟩
 · cases hv
   have:zs=[]:=List.eq_nil_of_length_eq_zero (by omega)
   subst this
   refine (Tryz.slices_Compact_string_empty _ _ _).mono ?_
   rintro e w' ⟨rfl,rfl⟩
   exact ⟨0,0,rfl,rfl,by simpa [Lib.compact,Lib.compactUpTo] using World.ownsRow_nil _ _ _ _,rfl,rfl,rfl,Nat.le_refl _,fun _ _ _=>rfl⟩
 · cases hv
   have hh:=holds_of_block hb (ss:=zs) (by simpa [hl] using h4)
   have hc:=Tryz.slices_Compact_string g 0 c zs w hh (by omega) (by omega)
   have hle:(Lib.compact zs).length≤n:=by rw [← hl];exact compactUpTo_le _ _
   rw [hl] at hc
   refine hc.mono ?_
   rintro e w' ⟨rfl,q,rfl⟩
   have ht:(Lib.compact zs++List.replicate (n - (Lib.compact zs).length) []).length=zs.length:=by simp;omega
   have h5:=ownsRow_sorted (n:=q) (os:=#[]) (ss:=zs) (ts:=Lib.compact zs++List.replicate (n - (Lib.compact zs).length) []) ht hB hb (by omega) h2 h3
   have h6:=grownBy_sorted (w:=w) (g:=g) (n:=q) (os:=#[]) (Lib.compact zs++List.replicate (n - (Lib.compact zs).length) []).toArray
   rw [grow_empty] at h5 h6
   rw [hl] at h5
   have h7:=own_take h5 hle (by simp)
   rw [Nat.mul_one,List.map_append,List.take_append_of_le_length (by simp),List.take_of_length_le (by simp)] at h7
   exact ⟨_,c,rfl,rfl,h7,h6⟩
theorem own_box {w:World} {B e s n g:Nat} {v:Value} {xs:List Value} (h:w.ownsRow B e s v n xs) (hg:v.ownBlock ≠ some g) (x0 x1 x2 x3:Value) :
 ((((w.setCell ⟨g,0,none⟩ x0).setCell ⟨g,1,none⟩ x1).setCell ⟨g,2,none⟩ x2).setCell ⟨g,3,none⟩ x3).ownsRow B e s v n xs :=
 ownsRow_setCell_other (ownsRow_setCell_other (ownsRow_setCell_other (ownsRow_setCell_other h hg _) hg _) hg _) hg _
theorem below_box {B g:Nat} {w w1:World} (hg:B≤g) (hb:Below B w w1) (x0 x1 x2 x3:Value):Below B w ((((w1.setCell ⟨g,0,none⟩ x0).setCell ⟨g,1,none⟩ x1).setCell ⟨g,2,none⟩ x2).setCell ⟨g,3,none⟩ x3) :=
 (((hb.setCell (p:=⟨g,0,none⟩) hg x0).setCell (p:=⟨g,1,none⟩) hg x1).setCell (p:=⟨g,2,none⟩) hg x2).setCell (p:=⟨g,3,none⟩) hg x3
/-- A set that was made, or a refusal on its way out. -/
def MOut (e:Ending) (w':World) (B:Nat) (r:Wr):Prop:=match r with
 | .ok x=>∃ v,e=.returned v∧SV w' B v x
 | .error er=>e=refused er
theorem sorted_set (xs:List ByteArray):(Lib.compact (sortS xs)).map encStr=(setOf xs).flatMap Sv:=by
 rw [enc_map]
 congr 1
 exact members_eq xs
theorem members_any (w:World) (B:Nat) (a:Option Addr) (n c:Nat) (xs:List ByteArray) (ho:w.ownsRow B 9 1 (.slice a n c) n (xs.flatMap Sv)) (hn:n < 4611686018427387904) (hB:B≤w.heap.size) :
 Calls Tryz.prog 79 #[.slice a n c] w fun e w'=>MOut e w' B (membersW xs)∧Below B w w':=by
 obtain ⟨w1,hw1⟩:∃ w1,w1=w.alloc boxZ:=⟨_,rfl⟩
 have g0:w1.heap[w.heap.size]?=some boxZ:=by rw [hw1];exact heap_alloc_new w _
 have hb1:Below w.heap.size w w1:=by rw [hw1];exact bel1 _ _
 have z1:w1.heap.size=w.heap.size+1:=by rw [hw1];simp
 have HO:=Lib.hid (own_below ho hb1)
 have HLT:=Lib.hid ho.lt
 have HB1:=Lib.hid (hb1.mono hB)
 have G0:=Lib.hid g0
 have HN:=Lib.hid hn
 clear ho g0 hb1 hn
 go_enter Tryz.func79,Tryz.ntmps79
 go_upto_region 1 with (fail)
 rw [← hw1]
 clear hw1
 go_wp2_with fail
 with_reducible refine (sort_any w1 B a n c xs HO.out HN.out).mono ?_
 rintro e w2 ⟨rfl,ho2,hg2⟩
 have hb2:Below B w1 w2:=(Below.refl _ _).grown hg2 (by omega) (fun k hk=>(HLT.out k hk).1)
 have g2:=(hg2.block w.heap.size (by omega) (fun e=>by have:=(HLT.out _ e.symm).2;omega)).trans G0.out
 have HO2:=Lib.hid ho2
 have HB2:=Lib.hid (HB1.out.trans hb2)
 have G2:=Lib.hid g2
 have z2:=hg2.size
 clear ho2 hg2 hb2 g2
 go_wp2_with fail
 with_reducible refine (compact_any w2 B a n c _ HO2.out HN.out).mono ?_
 rintro e w3 ⟨k,c',hk,rfl,ho3,hg3⟩
 have hb3:Below B w2 w3:=(Below.refl _ _).grown hg3 (by omega) (fun k hk=>(HLT.out k hk).1)
 have g3:=(hg3.block w.heap.size (by omega) (fun e=>by have:=(HLT.out _ e.symm).2;omega)).trans G2.out
 rw [sorted_set] at ho3
 have hk':k=(setOf xs).length:=by have:=ho3.1;rw [flat_len Sv 1 Sv_len] at this;omega
 have HO3:=Lib.hid ho3
 have HB3:=Lib.hid (HB2.out.trans hb3)
 have G3:=Lib.hid g3
 have HK:=Lib.hid hk'
 obtain ⟨c0,c1,c2,c3,f0,f1,f2,f3⟩:=box4 g3
 clear ho3 hg3 hb3 g3 hk hk'
 by_cases h64:64 < k
 · have h64I:(64:Int) < (k:Int):=by omega
   have HM:=Lib.hid (show membersW xs=.error 114 by unfold membersW;rw [if_pos (by rw [← HK.out];exact h64)])
   clear h64
   go_wp2_with (go_at_call 53;refine (refuse_any _ _).mono ?_;rintro e w' ⟨rfl,rfl⟩)
   exact ⟨rfl,by rw [HM.out];exact rfl,HB3.out⟩
 · have h64I:¬ (64:Int) < (k:Int):=by omega
   have HM:=Lib.hid (show membersW xs=.ok ⟨5,0,ByteArray.empty,setOf xs⟩ by unfold membersW;rw [if_neg (by rw [← HK.out];exact h64)])
   clear h64
   go_wp2_with (go_at_call 53;refine (refuse_any _ _).mono ?_;rintro e w' ⟨rfl,rfl⟩)
   refine retbox rfl (w1:=w3) G3.out rfl ?_
   have hne:(Value.slice a k c').ownBlock ≠ some w.heap.size:=fun e=>by
    have e':(Value.slice a n c).ownBlock=some w.heap.size:=by rw [← e];cases a <;> rfl
    have:=(HLT.out _ e').2
    omega
   refine ⟨?_,below_box hB HB3.out _ _ _ _⟩
   rw [HM.out]
   exact ⟨_,rfl,a,k,c',rfl,HK.out,.inr (own_box HO3.out hne _ _ _ _)⟩
theorem zerosS (n:Nat):(Builtin.zeroCells (Value.string ByteArray.empty).cells n).size=n:=by
 simp [Builtin.zeroCells,Value.cells]
theorem grow_any (w:World) (n:Nat) (hn:n * 16≤140737488355328) :
 Calls Tryz.prog 115 #[.slice none 0 0,.int .i64 n] w fun e w'=>∃ a c,e=.returned (.slice a 0 c)∧w'.ownsRow w.heap.size 9 1 (.slice a 0 c) 0 []∧Below w.heap.size w w':=by
 by_cases h0:n=0
 · subst h0
   refine (Any8.slices_Grow_room Tryz.laysGrow none 0 0 0 w (by omega) (by omega) (by omega) (by omega)).mono ?_
   rintro e w' ⟨rfl,rfl⟩
   exact ⟨none,0,rfl,World.ownsRow_nil _ _ _ _,Below.refl _ _⟩
 · obtain ⟨i,hi,hz0,hz1,hz2⟩:=info_parts sl45.inf
   have hc:=Any8.slices_Grow_grow Tryz.laysGrow i (.string ByteArray.empty) hi hz0 (by omega) none 0 0 n [] w (by omega) (by omega) (by rw [hz2,Nat.zero_add];exact hn) (by omega) (by simp) (fun _=>rfl) (fun a h=>by cases h)
   refine hc.mono ?_
   rintro e w' ⟨rfl,rfl⟩
   have c1:=grownCap_ge w (0+n) 0 9
   have c2:=grownCap_le_maxLen w (0+n) 0 9 (by unfold maxLen;omega)
   refine ⟨_,_,rfl,⟨by simp,.inr ⟨w.heap.size,grownCap w (0+n) 0 9,_,rfl,Nat.le_refl _,heap_alloc_new w.drew _,by omega,c2,?_,by simp⟩⟩,((Below.refl _ _).drew).alloc (Nat.le_refl _) _⟩
   simp only [Array.size_append,zerosS,List.size_toArray,List.length_nil]
   change 0+(0+n - 0)+(grownCap w (0+n) 0 9 - (0+n))=_
   omega
theorem strs_src {w:World} {a:Option Addr} {n c:Nat} {xs:List ByteArray} (h:RS 1 Sv w a n c xs) (ha:a=none→c=0):(a=none∧n=0∧c=0∧xs.flatMap Sv=[])∨∃ ad,a=some ad∧∀ j u,(xs.flatMap Sv)[j]?=some u→w.cell? (ad.add j)=some u:=by
 cases a with
 | none =>
   have hc:=ha rfl
   have hn:=h.2.1
   have:xs=[]:=List.eq_nil_of_length_eq_zero (by have:=h.1;omega)
   subst this
   exact .inl ⟨rfl,by omega,hc,rfl⟩
 | some ad=>exact .inr ⟨ad,rfl,h.cells Sv_len (by decide) rfl⟩
theorem src_below {w w':World} {a:Option Addr} {n c:Nat} {xs:List Value} (h:(a=none∧n=0∧c=0∧xs=[])∨∃ ad,a=some ad∧∀ j u,xs[j]?=some u→w.cell? (ad.add j)=some u) (hb:Below w.heap.size w w'):(a=none∧n=0∧c=0∧xs=[])∨∃ ad,a=some ad∧∀ j u,xs[j]?=some u→w'.cell? (ad.add j)=some u:=by
 rcases h with h | ⟨ad,e,h⟩
 · exact .inl h
 · refine .inr ⟨ad,e,fun j u hj=>?_⟩
   have q:=h j u hj
   exact (hb.cell (block_lt_of_cell q)).trans q
theorem one_strs {l:List ByteArray}:∀ u ∈ l.flatMap Sv,u.oneCell'=true:=by
 intro u hu
 obtain ⟨y,_,hy⟩:=List.mem_flatMap.1 hu
 simp [Sv] at hy
 subst hy
 rfl
theorem concat_any (w:World) (g:Nat) (a b:Option Addr) (n c m d:Nat) (xs ys:List ByteArray) (hx:RS 1 Sv w a n c xs) (hy:RS 1 Sv w b m d ys) (hg:w.heap[g]?=some (.cells #[.slice a n c,.slice b m d] 24 (0,0))) (hnm:(n+m) * 16≤140737488355328) (ha:a=none→c=0) (hb:b=none→d=0) :
 Calls Tryz.prog 100 #[.slice (some ⟨g,0,none⟩) 2 2] w fun e w'=>∃ a' c',e=.returned (.slice a' (n+m) c')∧w'.ownsRow w.heap.size 9 1 (.slice a' (n+m) c') (n+m) ((xs++ys).flatMap Sv)∧Below w.heap.size w w':=by
 have HX:=Lib.hid hx
 have HY:=Lib.hid hy
 have HG:=Lib.hid hg
 have hlx:=hx.1
 have hly:=hy.1
 have r0:=cell_of_row w g 0 _ _ _ hg
 have r1:=cell_of_row w g 1 _ _ _ hg
 simp only [List.getElem?_toArray,List.getElem?_cons_zero,List.getElem?_cons_succ] at r0 r1
 have hgs:=(Array.getElem?_eq_some_iff.1 hg).1
 have e1:wrap64 (0+(n:Int))=(n:Int):=by unfold wrap64;omega
 have e2:wrap64 ((n:Int)+(m:Int))=((n+m:Nat):Int):=by unfold wrap64;omega
 have e3:¬ (n:Int) < 0:=by omega
 have e4:¬ (((n+m:Nat):Int)) < 0:=by omega
 have HA:=Lib.hid (strs_src hx ha)
 have HB:=Lib.hid (strs_src hy hb)
 clear hx hy hg ha hb
 go_enter Tryz.func100,Tryz.ntmps100
 go_wp2_with fail
 refine wp_loop_rounds 3 ?_
 rw [rounds_succ]
 go_wp2_with fail
 rw [rounds_succ]
 go_wp2_with fail
 rw [rounds_succ]
 go_wp2_with fail
 rw [show ((n:Int)+(m:Int))=((n+m:Nat):Int) by omega]
 with_reducible refine (grow_any w (n+m) hnm).mono ?_
 rintro e w1 ⟨a1,k1,rfl,ho1,hb1⟩
 have q0:=(hb1.cell (p:=⟨g,0,none⟩) hgs).trans r0
 have q1:=(hb1.cell (p:=⟨g,1,none⟩) hgs).trans r1
 have HO1:=Lib.hid ho1
 have HB1:=Lib.hid hb1
 have z1:=hb1.size
 clear ho1 hb1
 go_wp2_with fail
 refine wp_loop_rounds 3 ?_
 rw [rounds_succ]
 go_wp2_with (at_builtin;(refine L_appendE rfl _ _ _ rfl sl45 w.heap.size a1 0 k1 [] rfl HO1.out a n c (xs.flatMap Sv) rfl (src_below HA.out HB1.out) (by rw [flat_len Sv 1 Sv_len];omega) one_strs (by omega) (by unfold maxLen;omega) z1 (fun a2 k2 w2 ho2 hg2=>?_)
                          rw [List.nil_append,Nat.zero_add] at ho2
                          have hb2:Below w.heap.size w1 w2:=(Below.refl _ _).grown hg2 z1 (fun k hk=>(HO1.out.lt k hk).1)
                          have s0:=(hb2.cell (p:=⟨g,0,none⟩) hgs).trans q0
                          have s1:=(hb2.cell (p:=⟨g,1,none⟩) hgs).trans q1
                          have HO2:=Lib.hid ho2
                          have HB2:=Lib.hid (HB1.out.trans hb2)
                          have z2:=hg2.size
                          clear ho2 hg2 hb2))
 rw [rounds_succ]
 go_wp2_with (at_builtin;(refine L_appendE rfl _ _ _ rfl sl45 w.heap.size a2 n k2 (xs.flatMap Sv) rfl HO2.out b m d (ys.flatMap Sv) rfl (src_below HB.out HB2.out) (by rw [flat_len Sv 1 Sv_len];omega) one_strs (by omega) (by unfold maxLen;omega) (by omega) (fun a3 k3 w3 ho3 hg3=>?_)
                          have hb3:Below w.heap.size w2 w3:=(Below.refl _ _).grown hg3 (by omega) (fun k hk=>(HO2.out.lt k hk).1)
                          have HO3:=Lib.hid ho3
                          have HB3:=Lib.hid (HB2.out.trans hb3)
                          clear ho3 hg3 hb3))
 rw [rounds_succ]
 go_wp2_with fail
 go_ret
 refine ⟨a3,k3,rfl,?_,HB3.out⟩
 rw [List.flatMap_append]
 exact HO3.out
theorem in_one (W:World) (g:Nat) (b:Option Addr) (m d:Nat) (ys:List ByteArray) (hc:W.cell? ⟨g,0,none⟩=some (.slice b m d)) (hy:RS 1 Sv W b m d ys) (s:ByteArray) :
 FnGives Tryz.prog 102 #[.pointer (some ⟨g,0,none⟩)] #[.string s] (.bool (inSS ys s)) W:=by
 show Calls Tryz.prog 102 #[.string s,.pointer (some ⟨g,0,none⟩)] W _
 have HY:=Lib.hid hy
 clear hy
 go_enter Tryz.func102,Tryz.ntmps102
 go_wp2_with (go_at_call 84;refine (contains_any _ _ _ _ _ HY.out _).mono ?_;rintro e w' ⟨rfl,rfl⟩)
 go_ret
 exact ⟨rfl,0,rfl⟩
theorem filter_back (xs ys:List ByteArray):((xs.map fun b=>b.data.toList).filter fun x=>!inSS ys (toBA x)).map toBA=xs.filter fun x=>!inSS ys x:=by
 rw [List.filter_map,List.map_map]
 have:(fun x:ByteArray=>toBA x.data.toList)=id:=rfl
 show ((xs.filter _).map fun x:ByteArray=>toBA x.data.toList)=_
 rw [this,List.map_id]
 rfl
theorem delete_any (w w0:World) (B g:Nat) (a:Option Addr) (n c:Nat) (xs:List ByteArray) (ho:w.ownsRow B 9 1 (.slice a n c) n (xs.flatMap Sv)) (hn:n < 4611686018427387904) (hB:B≤w.heap.size) (hgB:g < B) (b:Option Addr) (m d:Nat) (ys:List ByteArray)
 (hg:w.cell? ⟨g,0,none⟩=some (.slice b m d)) (hy:RS 1 Sv w0 b m d ys) (h0B:w0.heap.size≤B) (hb0:Below w0.heap.size w0 w) :
 Calls Tryz.prog 101 #[.slice a n c,.func (.func 102) #[] #[.pointer (some ⟨g,0,none⟩)]] w fun e w'=>∃ k c',e=.returned (.slice a k c')∧k≤n∧w'.ownsRow B 9 1 (.slice a k c') k ((xs.filter fun x=>!inSS ys x).flatMap Sv)∧Below B w w':=by
 have hl:xs.length=n:=by have:=ho.1;rw [flat_len Sv 1 Sv_len] at this;omega
 have he:xs.flatMap Sv=(xs.map fun b=>b.data.toList).map encStr:=by rw [enc_map,back_map]
 have hgive:∀ W,Below B w W→∀ s,FnGives Tryz.prog 102 #[.pointer (some ⟨g,0,none⟩)] #[.string s] (.bool (inSS ys s)) W:=fun W hb s =>
  in_one W g b m d ys ((hb.cell (p:=⟨g,0,none⟩) hgB).trans hg) (hy.below (hb0.trans (hb.mono h0B))) s
 rcases ho.2 with ⟨hv,h0⟩ | ⟨g',cap,cur,hv,hB',hb,h1,h2,h3,h4⟩
 · cases hv
   have hxs:xs=[]:=List.eq_nil_of_length_eq_zero (by omega)
   subst hxs
   go_enter Tryz.func101,Tryz.ntmps101
   go_wp2_with (go_at_call 55;refine (Tryz.slices_IndexFunc_empty (α:=ByteArray) _ _ _ _).mono ?_;rintro e w' ⟨rfl,rfl⟩)
   go_ret
   exact ⟨0,0,rfl,Nat.le_refl _,World.ownsRow_nil _ _ _ _,Below.refl _ _⟩
 · cases hv
   rw [he] at h4
   have hh:=holds_of_block hb (ss:=xs.map fun b=>b.data.toList) (by simpa [hl] using h4)
   have hc:=Tryz.slices_DeleteFunc encStr (fun _=>rfl) (fun x=>inSS ys (toBA x)) 102 #[.pointer (some ⟨g,0,none⟩)] (fun args w=>enters_of Tryz.func102 (by kernel_rfl) rfl args w) [] (fun w=>Tryz.zeroValue9 w) g' 0 c (xs.map fun b=>b.data.toList).toArray w
    (fun W x hb=>hgive W (hb.mono hB) _) (fun q os dk x _=>hgive _ ((Below.refl B w).grown (grownBy_sorted dk) hB (fun k hk=>by cases hk;exact hB')) _) hh (by simp;omega) (by simp;omega)
   simp only [List.size_toArray,List.length_map,hl] at hc
   refine hc.mono ?_
   rintro e w' ⟨rfl,q,rfl⟩
   obtain ⟨fl,hfl⟩:∃ fl,fl=(xs.map fun b=>b.data.toList).filter fun x=>!inSS ys (toBA x):=⟨_,rfl⟩
   have hle:fl.length≤n:=by rw [hfl,← hl];exact Nat.le_trans (List.length_filter_le _ _) (by simp)
   rw [← hfl]
   have ht:(fl++List.replicate (n - fl.length) []).length=(xs.map fun b=>b.data.toList).length:=by simp;omega
   have h5:=ownsRow_sorted (n:=q) (os:=#[]) (ss:=xs.map fun b=>b.data.toList) (ts:=fl++List.replicate (n - fl.length) []) ht hB' hb (by simp;omega) h2 h3
   have h6:=grownBy_sorted (w:=w) (g:=g') (n:=q) (os:=#[]) (fl++List.replicate (n - fl.length) []).toArray
   rw [grow_empty] at h5 h6
   simp only [List.length_map,hl] at h5
   have h7:=own_take h5 hle (by simp)
   rw [Nat.mul_one,List.map_append,List.take_append_of_le_length (by simp),List.take_of_length_le (by simp),enc_map,hfl,filter_back] at h7
   rw [hfl]
   rw [hfl] at h6
   exact ⟨_,c,rfl,by rw [← hfl];exact hle,h7,(Below.refl _ _).grown h6 hB (fun k hk=>by cases hk;exact hB')⟩
/-- A list of texts, nil where it has no address. -/
structure RZ (w:World) (a:Option Addr) (n c:Nat) (xs:List ByteArray):Prop where
 rs:RS 1 Sv w a n c xs
 z:a=none→c=0
theorem RZ.below {w w':World} {a:Option Addr} {n c:Nat} {xs:List ByteArray} (h:RZ w a n c xs) (hb:Below w.heap.size w w'):RZ w' a n c xs:=⟨h.1.below hb,h.2⟩
theorem SV.below {w w':World} {B:Nat} {v:Value} {x:Vl} (h:SV w B v x) (hb:Below w.heap.size w w'):SV w' B v x:=by
 obtain ⟨a,l,c,rfl,hl,h⟩:=h
 refine ⟨a,l,c,rfl,hl,?_⟩
 rcases h with h | h
 · exact .inl h
 · exact .inr (own_below h hb)
theorem SV.mono {w:World} {B B':Nat} {v:Value} {x:Vl} (h:SV w B v x) (hb:B'≤B):SV w B' v x:=by
 obtain ⟨a,l,c,rfl,hl,h⟩:=h
 refine ⟨a,l,c,rfl,hl,?_⟩
 rcases h with h | h
 · exact .inl h
 · exact .inr (owns_mono h hb)
theorem SV.box {w:World} {B g:Nat} {v:Value} {x:Vl} (h:SV w B v x) (hg:g < B) (x0 x1 x2 x3:Value):SV ((((w.setCell ⟨g,0,none⟩ x0).setCell ⟨g,1,none⟩ x1).setCell ⟨g,2,none⟩ x2).setCell ⟨g,3,none⟩ x3) B v x:=by
 obtain ⟨a,l,c,rfl,hl,h⟩:=h
 refine ⟨a,l,c,rfl,hl,?_⟩
 rcases h with h | h
 · exact .inl h
 · exact .inr (own_box h (fun e=>by have:=(h.lt g e).1;omega) _ _ _ _)
theorem SO.mono {w:World} {B B':Nat} {v:Value} {x:Vl} (h:SO w B v x) (hb:B'≤B):SO w B' v x:=by
 obtain ⟨a,l,c,rfl,hl,h⟩:=h
 exact ⟨a,l,c,rfl,hl,owns_mono h hb⟩
theorem SO.box {w:World} {B g:Nat} {v:Value} {x:Vl} (h:SO w B v x) (hg:g < B) (x0 x1 x2 x3:Value):SO ((((w.setCell ⟨g,0,none⟩ x0).setCell ⟨g,1,none⟩ x1).setCell ⟨g,2,none⟩ x2).setCell ⟨g,3,none⟩ x3) B v x:=by
 obtain ⟨a,l,c,rfl,hl,h⟩:=h
 exact ⟨a,l,c,rfl,hl,own_box h (fun e=>by have:=(h.lt g e).1;omega) _ _ _ _⟩
theorem SV.rz {w:World} {B:Nat} {x:Vl} {a:Option Addr} {l c:Nat} (h:SV w B (VA x a l c) x) (hl:l≤281474976710656):RZ w a l c x.ss:=by
 obtain ⟨a',l',c',e,hl',h⟩:=h
 simp only [Value.agg.injEq,Array.mk.injEq,List.cons.injEq,Value.slice.injEq,true_and,and_true] at e
 obtain ⟨rfl,rfl,rfl⟩:=e
 rcases h with ⟨rfl,h⟩ | h
 · have:x.ss=[]:=List.eq_nil_of_length_eq_zero hl'.symm
   rw [this]
   exact ⟨⟨rfl,Nat.zero_le _,by omega,fun i y hy=>by simp at hy⟩,h⟩
 · refine ⟨RS.of_owns h (by decide) Sv_len (by omega),fun e=>?_⟩
   subst e
   rcases h.2 with ⟨hv,_⟩ | ⟨g,cap,cur,hv,_⟩
   · cases hv;rfl
   · cases hv
theorem MOut.cases {e:Ending} {w':World} {B:Nat} {r:Wr} (h:MOut e w' B r):(∃ x a l c,r=.ok x∧e=.returned (VA x a l c)∧SV w' B (VA x a l c) x)∨(∃ er,r=.error er∧e=refused er):=by
 cases r with
 | ok x =>
   obtain ⟨v,rfl,hs⟩:=h
   obtain ⟨a,l,c,rfl,h2⟩:=id hs
   exact .inl ⟨x,a,l,c,rfl,rfl,hs⟩
 | error er=>exact .inr ⟨er,rfl,h⟩
theorem MOut.ok {w':World} {B:Nat} {r:Wr} {x:Vl} {a:Option Addr} {l c:Nat} (h:r=.ok x) (hs:SV w' B (VA x a l c) x):MOut (.returned (VA x a l c)) w' B r:=by subst h;exact ⟨_,rfl,hs⟩
theorem MOut.err {w':World} {B:Nat} {r:Wr} {er:Int} (h:r=.error er):MOut (refused er) w' B r:=by subst h;exact rfl
theorem MOut.below {e:Ending} {w w':World} {B:Nat} {r:Wr} (h:MOut e w B r) (hb:Below w.heap.size w w'):MOut e w' B r:=by
 cases r with
 | ok x=>obtain ⟨v,rfl,hs⟩:=h;exact ⟨v,rfl,hs.below hb⟩
 | error er=>exact h
theorem MOut.mono {e:Ending} {w:World} {B B':Nat} {r:Wr} (h:MOut e w B r) (hb:B'≤B):MOut e w B' r:=by
 cases r with
 | ok x=>obtain ⟨v,rfl,hs⟩:=h;exact ⟨v,rfl,hs.mono hb⟩
 | error er=>exact h
theorem NOut.mout {e:Ending} {r:Wr} (h:NOut e r) (w:World) (B:Nat):MOut e w B r:=by
 cases r with
 | ok x=>obtain ⟨rfl,hs⟩:=h;exact ⟨_,rfl,none,0,0,rfl,by rw [hs];rfl,.inl ⟨rfl,fun _=>rfl⟩⟩
 | error er=>exact h
theorem sets_any (w:World) (op:Int) (a:Option Addr) (n c:Nat) (xs:List ByteArray) (hx:RZ w a n c xs) (b:Option Addr) (m d:Nat) (ys:List ByteArray) (hy:RZ w b m d ys) (hn:n≤1000000) (hm:m≤1000000) :
 Calls Tryz.prog 85 #[.int .i64 op,.slice a n c,.slice b m d] w fun e w'=>MOut e w' w.heap.size (setsW op xs ys)∧Below w.heap.size w w':=by
 obtain ⟨w2,hw2⟩:∃ w2,w2=(w.alloc (.cells #[.slice b m d] 24)).alloc boxZ:=⟨_,rfl⟩
 have g0:w2.heap[w.heap.size]?=some (.cells #[.slice b m d] 24 (0,0)):=by rw [hw2];exact heap_alloc2_old w _ _
 have g1:w2.heap[w.heap.size+1]?=some boxZ:=by rw [hw2];exact heap_alloc2_new w _ _
 have hb2:Below w.heap.size w w2:=by rw [hw2];exact bel2 _ _ _
 have z2:w2.heap.size=w.heap.size+2:=by rw [hw2];simp
 have HB2:=Lib.hid hb2
 have HX:=Lib.hid hx
 have HY:=Lib.hid hy
 have G0:=Lib.hid g0
 have G1:=Lib.hid g1
 have p0:=cell_of_row w2 _ 0 _ _ _ g0
 simp only [List.getElem?_toArray,List.getElem?_cons_zero] at p0
 obtain ⟨c0,c1,c2,c3,f0,f1,f2,f3⟩:=box4 g1
 clear hx hy g0 g1 hb2
 cases h18:(op == 18)
 · cases h19:(op == 19)
   · have HS:=Lib.hid (show setsW op xs ys=.error 100 by simp at h18 h19;simp [setsW,h18,h19])
     go_enter Tryz.func85,Tryz.ntmps85
     go_upto_region 1 with (fail)
     rw [← hw2]
     clear hw2
     go_wp2_with (go_at_call 53;refine (refuse_any _ _).mono ?_;rintro e w' ⟨rfl,rfl⟩)
     exact ⟨rfl,by rw [HS.out];exact rfl,HB2.out⟩
   · have HS:=Lib.hid (show setsW op xs ys=membersW (xs.filter fun m=>!inSS ys m) by simp at h18 h19;simp [setsW,h19])
     go_enter Tryz.func85,Tryz.ntmps85
     go_upto_region 1 with (fail)
     rw [← hw2]
     clear hw2
     go_wp2_with fail
     with_reducible refine (clone_any w2 a n c xs (HX.out.below HB2.out).1 (by omega)).mono ?_
     rintro e w3 ⟨a3,k3,rfl,ho3,hb3⟩
     have z3:=hb3.size
     have HO3:=Lib.hid ho3
     have HB3:=Lib.hid (HB2.out.trans (hb3.mono (by omega)))
     have HP3:=Lib.hid ((hb3.cell (p:=⟨w.heap.size,0,none⟩) (by show w.heap.size < _;omega)).trans p0)
     have HG3:=Lib.hid ((hb3.block _ (by omega)).trans G1.out)
     clear ho3 hb3 c0 c1 c2 c3 f0 f1 f2 f3 p0
     have hmf:∀ (fn:Fn) (first cap:Array Value) (w:World),(Instr.makeFunc fn first cap).run Tryz.prog w=.ok (.func fn first cap) w:=fun _ _ _ _=>rfl
     go_wp2_with fail
     with_reducible refine (delete_any w3 w w2.heap.size w.heap.size a3 n k3 xs HO3.out (by omega) z3 (by omega) b m d ys HP3.out HY.out.1 (by omega) HB3.out).mono ?_
     rintro e w4 ⟨k4,c4,rfl,hk4,ho4,hb4⟩
     have z4:=hb4.size
     have HO4:=Lib.hid ho4
     have HB4:=Lib.hid (HB3.out.trans (hb4.mono (by omega)))
     have HG4:=Lib.hid ((hb4.block _ (by omega)).trans HG3.out)
     clear ho4 hb4
     go_wp2_with fail
     with_reducible refine (members_any w4 w2.heap.size a3 k4 c4 _ HO4.out (by omega) (by omega)).mono ?_
     rintro e w5 ⟨hm5,hb5⟩
     have g5:=(hb5.block _ (by omega)).trans HG4.out
     obtain ⟨c0,c1,c2,c3,f0,f1,f2,f3⟩:=box4 g5
     have HG5:=Lib.hid g5
     have HB5:=Lib.hid (HB4.out.trans (hb5.mono (by omega)))
     clear hb5 g5
     rcases hm5.cases with ⟨x,a5,l5,c5,hx5,rfl,hs5⟩ | ⟨er,hx5,rfl⟩
     · have HS5:=Lib.hid hs5
       clear hm5 hs5
       go_wp2_with fail
       refine retbox rfl (w1:=w5) HG5.out rfl ?_
       exact ⟨.ok (by rw [HS.out,hx5]) ((HS5.out.box (by omega) _ _ _ _).mono (by omega)),below_box (by omega) HB5.out _ _ _ _⟩
     · clear hm5
       go_wp2_with fail
       exact ⟨rfl,.err (by rw [HS.out,hx5]),HB5.out⟩
 · have HS:=Lib.hid (show setsW op xs ys=membersW (xs++ys) by simp at h18;simp [setsW,h18])
   go_enter Tryz.func85,Tryz.ntmps85
   go_upto_region 1 with (fail)
   rw [← hw2]
   clear hw2
   go_wp2_with fail
   obtain ⟨w3,hw3⟩:∃ w3,w3=w2.alloc (.cells #[.slice a n c,.slice b m d] 24):=⟨_,rfl⟩
   have g3:w3.heap[w.heap.size+2]?=some (.cells #[.slice a n c,.slice b m d] 24 (0,0)):=by rw [hw3,← z2];exact heap_alloc_new w2 _
   have hb3:Below w2.heap.size w2 w3:=by rw [hw3];exact bel1 _ _
   have z3:w3.heap.size=w.heap.size+3:=by rw [hw3];simp [z2]
   rw [← hw3]
   have HB3:=Lib.hid (HB2.out.trans (hb3.mono (by omega)))
   have HG3:=Lib.hid ((hb3.block _ (by omega)).trans G1.out)
   clear hw3 hb3 c0 c1 c2 c3 f0 f1 f2 f3 p0
   with_reducible refine (concat_any w3 (w.heap.size+2) a b n c m d xs ys (HX.out.below HB3.out).1 (HY.out.below HB3.out).1 g3 (by omega) HX.out.2 HY.out.2).mono ?_
   rintro e w4 ⟨a4,c4,rfl,ho4,hb4⟩
   have z4:=hb4.size
   have HO4:=Lib.hid ho4
   have HB4:=Lib.hid (HB3.out.trans (hb4.mono (by omega)))
   have HG4:=Lib.hid ((hb4.block _ (by omega)).trans HG3.out)
   clear ho4 hb4 g3
   go_wp2_with fail
   with_reducible refine (members_any w4 w3.heap.size a4 (n+m) c4 _ HO4.out (by omega) (by omega)).mono ?_
   rintro e w5 ⟨hm5,hb5⟩
   have g5:=(hb5.block _ (by omega)).trans HG4.out
   obtain ⟨c0,c1,c2,c3,f0,f1,f2,f3⟩:=box4 g5
   have HG5:=Lib.hid g5
   have HB5:=Lib.hid (HB4.out.trans (hb5.mono (by omega)))
   clear hb5 g5
   rcases hm5.cases with ⟨x,a5,l5,c5,hx5,rfl,hs5⟩ | ⟨er,hx5,rfl⟩
   · have HS5:=Lib.hid hs5
     clear hm5 hs5
     go_wp2_with fail
     refine retbox rfl (w1:=w5) HG5.out rfl ?_
     exact ⟨.ok (by rw [HS.out,hx5]) ((HS5.out.box (by omega) _ _ _ _).mono (by omega)),below_box (by omega) HB5.out _ _ _ _⟩
   · clear hm5
     go_wp2_with fail
     exact ⟨rfl,.err (by rw [HS.out,hx5]),HB5.out⟩
theorem truth_n (w:World) (b:Bool):Calls Tryz.prog 49 #[.bool b] w fun e w'=>NOut e (.ok (truthV b))∧Below w.heap.size w w':=(truth_any w b).mono (by rintro e w' ⟨rfl,rfl⟩;exact ⟨⟨rfl,rfl⟩,bel2 _ _ _⟩)
theorem integer_n (w:World) (n:Int):Calls Tryz.prog 50 #[.int .i64 n] w fun e w'=>NOut e (.ok (intV n))∧Below w.heap.size w w':=(integer_any w n).mono (by rintro e w' ⟨rfl,rfl⟩;exact ⟨⟨rfl,rfl⟩,bel1 _ _⟩)
theorem short_n (w:World) (s:ByteArray):Calls Tryz.prog 47 #[.string s] w fun e w'=>NOut e (shortW s)∧Below w.heap.size w w':=by
 by_cases h:1024 < s.size
 · have hI:(1024:Int) < (s.size:Int):=by omega
   have e0:shortW s=.error 113:=by unfold shortW;rw [if_pos h]
   rw [e0]
   clear e0 h
   go_enter Tryz.func47,Tryz.ntmps47
   go_wp2_with (go_at_call 53;refine (refuse_any _ _).mono ?_;rintro e w' ⟨rfl,rfl⟩)
   exact ⟨rfl,rfl,bel1 _ _⟩
 · have hI:¬ (1024:Int) < (s.size:Int):=by omega
   have e0:shortW s=.ok ⟨3,0,s,[]⟩:=by unfold shortW;rw [if_neg h]
   rw [e0]
   clear e0 h
   go_enter Tryz.func47,Tryz.ntmps47
   go_wp2_with (go_at_call 53;refine (refuse_any _ _).mono ?_;rintro e w' ⟨rfl,rfl⟩)
   go_returns
   exact ⟨⟨rfl,rfl⟩,bel1 _ _⟩
theorem single_any (w:World) (op:Int) (x:Vl) (a:Option Addr) (l c:Nat) (hi:I64 x.n) (hl:l=x.ss.length):Calls Tryz.prog 68 #[.int .i64 op,VA x a l c] w fun e w'=>NOut e (singleW op x)∧Below w.heap.size w w':=by
 obtain ⟨w2,hw2⟩:∃ w2,w2=(w.alloc (boxS x a l c)).alloc boxZ:=⟨_,rfl⟩
 have g0:w2.heap[w.heap.size]?=some (boxS x a l c):=by rw [hw2];exact heap_alloc2_old w _ _
 have g1:w2.heap[w.heap.size+1]?=some boxZ:=by rw [hw2];exact heap_alloc2_new w _ _
 have hb2:Below w.heap.size w w2:=by rw [hw2];exact bel2 _ _ _
 have z2:w2.heap.size=w.heap.size+2:=by rw [hw2];simp
 have HB2:=Lib.hid hb2
 have G1:=Lib.hid g1
 have HI:=Lib.hid hi
 have HL:=Lib.hid hl
 obtain ⟨p0,p1,p2,p3,-⟩:=box4 g0
 clear g0 g1 hb2 hi hl
 go_enter Tryz.func68,Tryz.ntmps68
 go_upto_region 1 with (fail)
 rw [← hw2]
 clear hw2
 go_wp2_with (first | (go_at_call 53;refine (refuse_any _ _).mono ?_;rintro e w' ⟨rfl,rfl⟩) | (go_at_call 80;refine (difference_any _ 0 x.n ⟨by omega,by omega⟩ HI.out).mono ?_;rintro e w3 ⟨hn,hb3⟩;have g3:=(hb3.block _ (by omega)).trans G1.out;obtain ⟨c0,c1,c2,c3,f0,f1,f2,f3⟩:=box4 g3;rcases hn.cases with ⟨y,hy,rfl,hs⟩ | ⟨er,hy,rfl⟩) | (go_at_call 49;refine (truth_n _ _).mono ?_;rintro e w3 ⟨hn,hb3⟩;have g3:=(hb3.block _ (by omega)).trans G1.out;obtain ⟨c0,c1,c2,c3,f0,f1,f2,f3⟩:=box4 g3;rcases hn.cases with ⟨y,hy,rfl,hs⟩ | ⟨er,hy,rfl⟩) | (go_at_call 50;refine (integer_n _ _).mono ?_;rintro e w3 ⟨hn,hb3⟩;have g3:=(hb3.block _ (by omega)).trans G1.out;obtain ⟨c0,c1,c2,c3,f0,f1,f2,f3⟩:=box4 g3;rcases hn.cases with ⟨y,hy,rfl,hs⟩ | ⟨er,hy,rfl⟩))
 all_goals first
  | (cases hy;done)
  | (refine retbox rfl (w1:=w3) g3 rfl ?_;exact ⟨.ok (x:=y) (by have hl:=HL.out;rw [← hy];simp_all [singleW]) rfl hs,below_box (by omega) (HB2.out.trans (hb3.mono (by omega))) _ _ _ _⟩)
  | exact ⟨rfl,.err (by rw [← hy];simp_all [singleW]),HB2.out.trans (hb3.mono (by omega))⟩
  | exact ⟨rfl,.err (by simp_all [singleW]),HB2.out⟩
theorem u122p:Tryz.prog.underlying 121=some (.array 2 41):=by kernel_rfl
theorem u22:Tryz.prog.underlying 41=some (.int .i64):=by kernel_rfl
theorem part22a (a b:Int) (w:World):(part 41 #[.int .i64 a,.int .i64 b] 0).run Tryz.prog w=.ok (.int .i64 a) w:=by kernel_rfl
theorem part22b (a b:Int) (w:World):(part 41 #[.int .i64 a,.int .i64 b] 1).run Tryz.prog w=.ok (.int .i64 b) w:=by kernel_rfl
theorem eq122 (a b c d:Int) (w:World):(binOp .eql 121 (.agg #[.int .i64 a,.int .i64 b]) (.agg #[.int .i64 c,.int .i64 d])).run Tryz.prog w=.ok (.bool (a == c && b == d)) w:=by
 rw [run_eql_struct]
 show ((Op.equalIn (9999+1) 121 _ _).run Tryz.prog w).andThen _=_
 have h1:∀ w,(Op.equalIn 9999 41 (.int .i64 a) (.int .i64 c)).run Tryz.prog w=.ok (a == c) w:=fun w=>run_equalIn_int (P:=Tryz.prog) w 9998 41 .i64 .i64 a c u22
 have h2:∀ w,(Op.equalIn 9999 41 (.int .i64 b) (.int .i64 d)).run Tryz.prog w=.ok (b == d) w:=fun w=>run_equalIn_int (P:=Tryz.prog) w 9998 41 .i64 .i64 b d u22
 have hr:List.range' 0 2=[0,1]:=rfl
 cases h3:(a == c) <;> cases h4:(b == d) <;> rw [h3] at h1 <;> rw [h4] at h2 <;>
 · unfold Op.equalIn
   simp [Sem.run_bind,run_underlying u122p,Result.andThen,part22a,part22b,h1,h2,hr]
end Go.Proofs.YtcnckjlmldnblaaGreatDoor

