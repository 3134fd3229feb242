import Derived.Test.YtcnckjlmldnblaaGreatDoorB1
import Derived.Maps.AppendAt
import Derived.StillTailTactics
import Derived.Deep.RegionHeld3
import Derived.Deep.AppendLies
import Derived.Deep.RegionLaw
import Derived.BigRegion
import Derived.BigQuiet
import Derived.Deep.QuietTactic
import Derived.Lib.SlBytesRow
import Derived.Handy
import Derived.IntWalk
import Derived.Deep.CutBlock
import Derived.Deep.DeepCutAuto
namespace Go.Proofs.YtcnckjlmldnblaaGreatDoor
open Go Go.RowKit
set_option maxRecDepth 100000
set_option maxHeartbeats 4000000
set_option linter.unusedVariables false
set_option linter.unusedSimpArgs false
def dropA (a:Option Addr) (k cap:Nat):Option Addr:=if cap=k then a else a.map (·.add k)
section
variable {P : Program} {t e : TypeId} {z : Value} {bytes : Nat} (T : Sl P t e z 1 bytes) (w : World) (a : Option Addr) (len cap : Nat)
include T
theorem Sl.elem:P.underlying t=some (.slice (P.elem t))∧(sizeOf (P.elem t)).run P w=.ok 1 w:=by
 obtain ⟨i,hi,hz0,hz1,hz2⟩:=info_parts T.inf
 have he:P.elem t=e:=by simp [Program.elem,T.und]
 rw [he]
 exact ⟨T.und,by simp [sizeOf,typeInfo,hi,hz1]⟩
theorem slice_from (k:Nat) (x:Int) (hx:x=(k:Int)) (hk:k≤len):(Instr.slice t (.slice a len cap) (some (.int .i64 x)) none none).run P w=.ok (.slice (dropA a k cap) (len - k) (cap - k)) w:=by
 subst hx
 obtain ⟨h1,h2⟩:=T.elem w
 rw [run_slice_l w t a len cap h1 .i64 k (by omega) (by omega),h2]
 simp [Result.andThen,sliced,dropA]
end

/-- A slice of one-cell elements that can be read in w: its elements are vs. -/
def RVw (w:World) (a:Option Addr) (len cap:Nat) (vs:List Value):Prop :=
 vs.length=len∧len≤cap∧len≤281474976710656∧∀ i (h:i < vs.length),∃ b off,a=some ⟨b,off,none⟩∧w.cell? ⟨b,off+i,none⟩=some vs[i]
theorem RVw.at {w:World} {a:Option Addr} {len cap:Nat} {vs:List Value} (h:RVw w a len cap vs) {i:Nat} (hi:i < len) :
 ∃ b off v,a=some ⟨b,off,none⟩∧vs[i]?=some v∧w.cell? ⟨b,off+i,none⟩=some v:=by
 obtain ⟨h1,h2,h3,h4⟩:=h
 obtain ⟨b,off,e,hc⟩:=h4 i (by omega)
 exact ⟨b,off,vs[i],e,by simp,hc⟩
theorem RVw.nil (w:World) (c:Nat):RVw w none 0 c []:=⟨rfl,by omega,by omega,fun i hi=>by simp at hi⟩
theorem RVw.below {w w':World} {a:Option Addr} {len cap:Nat} {vs:List Value} (h:RVw w a len cap vs) (hb:Below w.heap.size w w'):RVw w' a len cap vs:=by
 obtain ⟨h1,h2,h3,h4⟩:=h
 refine ⟨h1,h2,h3,fun i hi=>?_⟩
 obtain ⟨b,off,e,hc⟩:=h4 i hi
 exact ⟨b,off,e,by rw [hb.cell (World.block_lt_of_cell? w _ hc)];exact hc⟩
theorem RVw.take {w:World} {a:Option Addr} {len cap:Nat} {vs:List Value} (h:RVw w a len cap vs) (n:Nat) (hn:n≤len):RVw w a n cap (vs.take n):=by
 obtain ⟨h1,h2,h3,h4⟩:=h
 refine ⟨by simp;omega,by omega,by omega,fun i hi=>?_⟩
 simp at hi
 obtain ⟨b,off,e,hc⟩:=h4 i (by omega)
 exact ⟨b,off,e,by simpa using hc⟩
theorem RVw.dropA {w:World} {a:Option Addr} {len cap:Nat} {vs:List Value} (h:RVw w a len cap vs) (k:Nat) (hk:k≤len):RVw w (dropA a k cap) (len - k) (cap - k) (vs.drop k):=by
 obtain ⟨h1,h2,h3,h4⟩:=h
 refine ⟨by simp;omega,by omega,by omega,fun i hi=>?_⟩
 simp at hi
 obtain ⟨b,off,rfl,hc⟩:=h4 (k+i) (by omega)
 refine ⟨b,off+k,?_,?_⟩
 · rw [Go.Proofs.YtcnckjlmldnblaaGreatDoor.dropA,if_neg (by omega)];simp [Addr.add_lit]
 · rw [Nat.add_assoc,hc];simp
theorem RVw.cells {w:World} {a:Option Addr} {len cap:Nat} {vs:List Value} (h:RVw w a len cap vs) {ad:Addr} (ha:a=some ad):∀ j u,vs[j]?=some u→w.cell? (ad.add j)=some u:=by
 intro j u hu
 obtain ⟨h1,h2,h3,h4⟩:=h
 have hj:j < vs.length:=(List.getElem?_eq_some_iff.1 hu).1
 obtain ⟨b,off,e,hc⟩:=h4 j hj
 obtain rfl:=Option.some.inj (ha.symm.trans e)
 simp [hj] at hu
 rw [Addr.add_lit,hc,hu]
theorem RVw.of_owns {w:World} {base e:Nat} {a:Option Addr} {n c:Nat} {vs:List Value} (h:w.ownsRow base e 1 (.slice a n c) n vs) (hn:n≤281474976710656):RVw w a n c vs:=by
 obtain ⟨h1,h2⟩:=h
 simp at h1
 rcases h2 with ⟨h2,rfl⟩ | ⟨g,cap,cur,hv,hg,hh,hnc,hcm,hcs,ht⟩
 · obtain rfl:vs=[]:=List.eq_nil_of_length_eq_zero h1
   exact ⟨rfl,by omega,by omega,fun i hi=>by simp at hi⟩
 · obtain ⟨rfl,-,rfl⟩:=Value.slice.inj hv
   refine ⟨h1,hnc,hn,fun i hi=>⟨g,0,rfl,?_⟩⟩
   rw [cell_of_row w g _ cur e (0,0) hh]
   have hi2:(cur.toList.take (n * 1))[i]?=vs[i]?:=by rw [ht]
   rw [List.getElem?_take,if_pos (by omega)] at hi2
   simpa [hi] using hi2
section
variable {P : Program} {w : World} {ops : Array Oper} {rest : List Oper} {o : Oper} {a : Act} {Q : Exit → Act → World → Prop}
end

def OwA (w:World) (B e:Nat) (v:Value) (xs:List Value):Prop :=
 (v=.slice none 0 0∧xs=[])∨∃ g off cap cur,v=.slice (some ⟨g,off,none⟩) xs.length cap∧B≤g∧w.heap[g]?=some (.cells cur e (0,0))∧xs.length≤cap∧cap≤maxLen∧cur.size=off+cap∧(cur.toList.drop off).take xs.length=xs
theorem OwA.nil (w:World) (B e:Nat):OwA w B e (.slice none 0 0) []:=.inl ⟨rfl,rfl⟩
theorem OwA.lt {w:World} {B e:Nat} {v:Value} {xs:List Value} (h:OwA w B e v xs):∀ k,v.ownBlock=some k→B≤k∧k < w.heap.size∧∃ cur,w.heap[k]?=some (.cells cur e (0,0)):=by
 intro k hk
 rcases h with ⟨rfl,_⟩ | ⟨g,off,cap,cur,rfl,hb,hg,_⟩
 · simp [Value.ownBlock] at hk
 · simp [Value.ownBlock] at hk
   subst hk
   exact ⟨hb,(Array.getElem?_eq_some_iff.1 hg).1,cur,hg⟩
theorem OwA.kept {w w':World} {B e:Nat} {v:Value} {xs:List Value} (h:OwA w B e v xs) (hk:∀ k,v.ownBlock=some k→w'.heap[k]?=w.heap[k]?):OwA w' B e v xs:=by
 rcases h with h | ⟨g,off,cap,cur,rfl,hb,hg,r⟩
 · exact .inl h
 · exact .inr ⟨g,off,cap,cur,rfl,hb,(hk g rfl).trans hg,r⟩
theorem OwA.rv {w:World} {B e:Nat} {v:Value} {xs:List Value} (h:OwA w B e v xs) (hn:xs.length≤281474976710656):∃ a c,v=.slice a xs.length c∧RVw w a xs.length c xs:=by
 rcases h with ⟨rfl,rfl⟩ | ⟨g,off,cap,cur,rfl,hb,hg,hc,hm,hs,ht⟩
 · exact ⟨none,0,rfl,RVw.nil _ _⟩
 · refine ⟨_,cap,rfl,rfl,hc,hn,fun i hi=>⟨g,off,rfl,?_⟩⟩
   rw [cell_of_row w g _ cur e (0,0) hg]
   have:((cur.toList.drop off).take xs.length)[i]?=xs[i]?:=by rw [ht]
   rw [List.getElem?_take,if_pos hi,List.getElem?_drop] at this
   simpa [hi] using this
theorem OwA.tail {w:World} {B e:Nat} {a:Option Addr} {n c:Nat} {x:Value} {xs:List Value} (h:OwA w B e (.slice a n c) (x :: xs)) (h2:0 < xs.length):OwA w B e (.slice (dropA a 1 c) (n - 1) (c - 1)) xs:=by
 rcases h with ⟨_,h⟩ | ⟨g,off,cap,cur,hv,hb,hg,hc,hm,hs,ht⟩
 · cases h
 · obtain ⟨rfl,rfl,rfl⟩:=Value.slice.inj hv
   simp only [List.length_cons] at hc ht ⊢
   refine .inr ⟨g,off+1,c - 1,cur,?_,hb,hg,by omega,by omega,by omega,?_⟩
   · rw [dropA,if_neg (by omega)];simp [Addr.add_lit]
   · have h3:=congrArg (List.drop 1) ht
     rw [List.drop_take,List.drop_drop] at h3
     simpa using h3

section
variable {P : Program} (w : World)
theorem run_append_A (base t ty e:Nat) {z:Value} {bytes:Nat} (T:Sl P t e z 1 bytes) (v:Value) (xs:List Value) (hown:OwA w base e v xs)
 (ad:Addr) (m c:Nat) (news:List Value) (hl:news.length=m) (hnews:∀ j u,news[j]?=some u→w.cell? (ad.add j)=some u) (h1:∀ u ∈ news,u.oneCell'=true) (hm:0 < m)
 (hb:(xs.length+m) * bytes≤140737488355328) (h63:xs.length+m≤maxLen) (hbase:base≤w.heap.size) :
 ∃ a' c' w',(Builtin.append_ #[t,t] ty #[v,.slice (some ad) m c]).run P w=.ok (.slice (some a') (xs.length+m) c') w'∧OwA w' base e (.slice (some a') (xs.length+m) c') (xs++news)∧w.grownBy w' v.ownBlock ∧
   (some a'.block=v.ownBlock∨a'.block=w.heap.size):=by
 obtain ⟨i,hi,hz0,hz1,hz2⟩:=info_parts T.inf
 rcases hown with ⟨rfl,rfl⟩ | ⟨g,off,cap,cur,rfl,hbg,hg,hc,hcm,hs,ht⟩
 · obtain ⟨v',w',hr2,h2,h3,_,h5⟩:=run_append_own_at (P:=P) w base t ty e i z 1 bytes T.und hi hz0 hz1 hz2 T.zs T.pos (.slice none 0 0) 0 [] (World.ownsRow_nil _ _ _ _) ad m c news (by simp [hl]) hnews h1 (by simpa using h63) (by simpa using hb) hbase
   simp only [Nat.zero_add,List.nil_append,List.length_nil] at h2 hr2 ⊢
   rcases h2.2 with ⟨_,h0⟩ | ⟨g,cap,cur,rfl,hbg,hg,hnc,hcm,hcs,ht⟩
   · omega
   · refine ⟨_,_,w',hr2,.inr ⟨g,0,cap,cur,by rw [hl],hbg,hg,by omega,hcm,by omega,by simpa [hl] using ht⟩,h3,?_⟩
     rcases h5 with h5 | h5
     · simp [Value.ownBlock] at h5
     · exact .inr (by simpa [Value.ownBlock] using h5)
 · have hsmall:xs.length+m≤9223372036854775807:=by simp only [maxLen] at h63;omega
   by_cases hroom:xs.length+m≤cap
   · have hf:=run_firstCells_some (P:=P) w i.size m ad m c news (by rw [hz1,hl];omega) hnews
     have hst:=run_storeCells_at P g (off+xs.length) e news 0 cur w hg (by omega) h1
     simp only [Nat.add_zero] at hst
     refine ⟨⟨g,off,none⟩,cap,w.setRow g (cur.toList.take (off+xs.length)++news++cur.toList.drop (off+xs.length+news.length)).toArray,?_,.inr ⟨g,off,cap,_,by rw [List.length_append,hl],hbg,setRow_heap w g cur _ e _ hg,by rw [List.length_append];omega,hcm,?_,?_⟩,⟨rfl,rfl,rfl,by simp,fun k _ hk=>setRow_other w g k _ (fun e=>hk (by simp [Value.ownBlock,e]))⟩,.inl rfl⟩
     · rw [hz1] at hf
       simp [Builtin.append_,run_underlying T.und,sizeOf,typeInfo,hi,Builtin.lenOf,hroom,hf,Addr.add_lit,hz1,hst]
     · simp only [List.size_toArray,List.length_append,List.length_take,List.length_drop,Array.length_toList]
       omega
     · have e1:(List.take (off+xs.length) cur.toList).drop off=xs:=by
        rw [List.drop_take,show off+xs.length - off=xs.length by omega];exact ht
       rw [List.toList_toArray,List.append_assoc,List.drop_append_of_le_length (by simp;omega),e1,← List.append_assoc,List.take_left]
   · have holds:∀ j u,xs[j]?=some u→w.cell? ((⟨g,off,none⟩:Addr).add j)=some u:=by
      intro j u hu
      rw [Addr.add_lit,cell_of_row w g _ cur e (0,0) hg]
      rw [← ht,List.getElem?_take] at hu
      split at hu
      · simpa [List.getElem?_drop] using hu
      · cases hu
     have hr:=run_append_grow (P:=P) w t ty e i z T.und hi hz0 ⟨g,off,none⟩ xs.length cap xs (by rw [hz1];omega) holds ad m c news (by rw [hz1];omega) hnews (by omega) (by omega) (by rw [hz2];exact growslice_fits (by omega) hb)
     have hge:=grownCap_ge w (xs.length+m) cap e
     have hcm2:grownCap w (xs.length+m) cap e≤maxLen:=grownCap_le_maxLen w _ cap e h63
     refine ⟨_,_,_,hr,.inr ⟨w.heap.size,0,_,_,by rw [List.length_append,hl],hbase,heap_alloc_new w.drew _,by rw [List.length_append];omega,hcm2,?_,?_⟩,⟨rfl,rfl,rfl,by simp,fun k hk _=>heap_alloc_old w.drew _ hk⟩,.inr rfl⟩
     · simp only [Array.size_append,List.size_toArray,size_zeroCells,T.zs,hl]
       omega
     · simp only [Array.toList_append,List.drop_zero,List.append_assoc]
       rw [← List.append_assoc]
       exact List.take_left
end

section
variable {P : Program} {w : World} {ops : Array Oper} {rest : List Oper} {o : Oper} {a : Act} {Q : Exit → Act → World → Prop}
theorem W_appendA {K:Act→World→Prop} (s x:Operand) (t:TypeId) (ho:o.op=.call { callee:=.builtin .append,args:=#[s,x],argTypes:=#[t,t] })
 {e:TypeId} {z:Value} {bytes:Nat} (T:Sl P t e z 1 bytes) (base:Nat) (v:Value) (xs:List Value) (hs:a.eval s=v) (hown:OwA w base e v xs)
 (ad:Addr) (c:Nat) (u:Value) (hx:a.eval x=.slice (some ad) 1 c) (hr:w.cell? ad=some u) (h1:u.oneCell'=true) (hb:(xs.length+1) * bytes≤140737488355328) (hm:xs.length+1≤maxLen) (hbase:base≤w.heap.size)
 (h:∀ a' c' w',OwA w' base e (.slice (some a') (xs.length+1) c') (xs++[u])→w.grownBy w' v.ownBlock→(some a'.block=v.ownBlock∨a'.block=w.heap.size)→K (a.put o.dst (.slice (some a') (xs.length+1) c')) w'):o.wp P a w K Q:=by
 obtain ⟨a',c',w',hr2,h2,h3,h5⟩:=run_append_A (P:=P) w base t o.type e T v xs hown ad 1 c [u] rfl
  (by intro j y hj;match j,hj with | 0,hj=>(simp at hj;subst hj;simpa [Addr.add] using hr)) (by simpa using h1) (by omega) hb hm hbase
 unfold Oper.wp execOp
 simp only [ho,resolve,invoke,builtin,Sem.run_bind,Sem.run_pure,Result.andThen_ok,List.map_toArray,List.map_cons,List.map_nil,hs,hx,hr2]
 exact h a' c' w' h2 h3 h5
theorem L_appendA (hgd:o.guard=none) (s x:Operand) (t:TypeId) (ho:o.op=.call { callee:=.builtin .append,args:=#[s,x],argTypes:=#[t,t] })
 {e:TypeId} {z:Value} {bytes:Nat} (T:Sl P t e z 1 bytes) (base:Nat) (v:Value) (xs:List Value) (hs:a.eval s=v) (hown:OwA w base e v xs)
 (ad:Addr) (c:Nat) (u:Value) (hx:a.eval x=.slice (some ad) 1 c) (hr:w.cell? ad=some u) (h1:u.oneCell'=true) (hb:(xs.length+1) * bytes≤140737488355328) (hm:xs.length+1≤maxLen) (hbase:base≤w.heap.size)
 (h:∀ a' c' w',OwA w' base e (.slice (some a') (xs.length+1) c') (xs++[u])→w.grownBy w' v.ownBlock→(some a'.block=v.ownBlock∨a'.block=w.heap.size)→wpList P ops Q rest (a.put o.dst (.slice (some a') (xs.length+1) c')) w'):wpList P ops Q (o :: rest) a w :=
 wpList_plain hgd fun _ hK=>W_appendA s x t ho T base v xs hs hown ad c u hx hr h1 hb hm hbase fun a' c' w' h2 h3 h4=>hK _ _ (h a' c' w' h2 h3 h4)
theorem S_appendA {K:Act→World→Prop} {E:Prop} (hgd:o.guard=none) (s x:Operand) (t:TypeId) (ho:o.op=.call { callee:=.builtin .append,args:=#[s,x],argTypes:=#[t,t] })
 {e:TypeId} {z:Value} {bytes:Nat} (T:Sl P t e z 1 bytes) (base:Nat) (v:Value) (xs:List Value) (hs:a.eval s=v) (hown:OwA w base e v xs)
 (ad:Addr) (c:Nat) (u:Value) (hx:a.eval x=.slice (some ad) 1 c) (hr:w.cell? ad=some u) (h1:u.oneCell'=true) (hb:(xs.length+1) * bytes≤140737488355328) (hm:xs.length+1≤maxLen) (hbase:base≤w.heap.size)
 (h:∀ a' c' w',OwA w' base e (.slice (some a') (xs.length+1) c') (xs++[u])→w.grownBy w' v.ownBlock→(some a'.block=v.ownBlock∨a'.block=w.heap.size)→K (a.put o.dst (.slice (some a') (xs.length+1) c')) w') :
 if Region.wanted o (yielded ops a.tmps)=true then Oper.wp P o a w K Q else E:=by
 rw [if_pos (by simp [Region.wanted,hgd])]
 exact W_appendA s x t ho T base v xs hs hown ad c u hx hr h1 hb hm hbase h
end

theorem one_sv {l:List ByteArray}:∀ u ∈ l.flatMap Sv,u.oneCell'=true:=by
 intro u hu
 obtain ⟨y,_,hy⟩:=List.mem_flatMap.1 hu
 simp only [Sv,List.mem_singleton] at hy
 rw [hy];rfl
theorem slB:Sl Tryz.prog 33 24 (.slice none 0 0) 1 24:=⟨by kernel_rfl,by kernel_rfl,rfl,by decide⟩
theorem rs_drewN {α:Type} {s:Nat} {enc:α→List Value} {w:World} {a:Option Addr} {n c:Nat} {xs:List α} (h:RS s enc w a n c xs) (k:Nat):RS s enc (w.drewN k) a n c xs:=h
theorem own_cap0 {w:World} {B e s n c:Nat} {a:Option Addr} {xs:List Value} (h:w.ownsRow B e s (.slice a n c) n xs):a=none→c=0:=by
 intro ha
 subst ha
 rcases h.2 with ⟨h1,_⟩ | ⟨g,cap,cur,h1,_⟩
 · injection h1
 · cases h1
theorem same_any (w:World) (a1 a2:Option Addr) (n1 n2 c1 c2:Nat) (l1 l2:List ByteArray) (h1:RS 1 Sv w a1 n1 c1 l1) (h2:RS 1 Sv w a2 n2 c2 l2) (r:Bool) (hr:l1=l2∧r=true) :
 Calls Tryz.prog 30 #[.slice a1 n1 c1,.slice a2 n2 c2] w fun e w'=>e=.returned (.bool r)∧∃ n,w'=w.drewN n:=by
 obtain ⟨rfl,rfl⟩:=hr
 obtain rfl:n1=n2:=h1.1.symm.trans h2.1
 have hn48:=h1.2.2.1
 have HX:=Lib.hid h1
 have HY:=Lib.hid h2
 clear h1 h2
 go_enter Tryz.func30,Tryz.ntmps30
 go_wp2_with fail
 go_loopw [5] (fun i wr=>∃ k:Nat,k≤n1∧i=.int .i64 k∧∃ nn,wr=w.drewN nn) (fun i _=>n1 - (intOf i).toNat)
 case atStart=>exact ⟨0,by omega,rfl,0,rfl⟩
 case round =>
  obtain ⟨k,hk,rfl,nn,rfl⟩:=hrel
  by_cases hlt:k < n1
  · obtain ⟨xa,xo,x,rfl,hx,hcx⟩:=HX.out.at hlt
    obtain ⟨ya,yo,y,rfl,hy,hcy⟩:=HY.out.at hlt
    obtain rfl:x=y:=Option.some.inj (hx.symm.trans hy)
    have x0:(w.drewN nn).cell? ⟨xa,xo+k * 1+0,none⟩=_:=hcx 0 _ rfl
    have y0:(w.drewN nn).cell? ⟨ya,yo+k * 1+0,none⟩=_:=hcy 0 _ rfl
    simp only [Nat.add_zero,Nat.mul_one] at x0 y0
    have hltI:(k:Int) < (n1:Int):=by omega
    clear hx hy hcx hcy
    generalize hW:w.drewN nn=W at *
    have HW:=Lib.hid hW
    clear hW
    go_wp2
    go_region
    go_wp2
    go_roundw
    case rel=>exact ⟨k+1,by omega,by go_num,nn+1,by rw [← HW.out];rfl⟩
    case measure=>simp [intOf];omega
  · have hltI:¬ (k:Int) < (n1:Int):=by omega
    go_wp2
    go_ret
    exact ⟨rfl,nn,rfl⟩
section
variable {P : Program} {w : World} {ops : Array Oper} {rest : List Oper} {o : Oper} {a : Act} {Q : Exit → Act → World → Prop}
theorem S_append8 {K:Act→World→Prop} {E:Prop} (hgd:o.guard=none) (s x:Operand) (t:TypeId) (ho:o.op=.call { callee:=.builtin .append,args:=#[s,x],argTypes:=#[t,t] })
 {e:TypeId} {z:Value} {bytes:Nat} (T:Sl P t e z 1 bytes) (base:Nat) (v:Value) (n:Nat) (xs:List Value) (hs:a.eval s=v) (hown:w.ownsRow base e 1 v n xs)
 (sa:Option Addr) (m c:Nat) (l:List ByteArray) (hx:a.eval x=.slice sa m c) (hr:RS 1 Sv w sa m c l∧(sa=none→c=0)) (hb:(n+m) * bytes≤140737488355328) (hm:n+m≤maxLen) (hbase:base≤w.heap.size)
 (h:∀ a' c' w',w'.ownsRow base e 1 (.slice a' (n+m) c') (n+m) (xs++l.flatMap Sv)→w.grownBy w' v.ownBlock→((Value.slice a' (n+m) c').ownBlock=v.ownBlock∨(Value.slice a' (n+m) c').ownBlock=some w.heap.size)→K (a.put o.dst (.slice a' (n+m) c')) w') :
 if Region.wanted o (yielded ops a.tmps)=true then Oper.wp P o a w K Q else E:=by
 cases sa with
 | none =>
   have hc:=hr.2 rfl
   have hm0:m=0:=by have:=hr.1.2.1;omega
   subst hc hm0
   rw [if_pos (by simp [Region.wanted,hgd])]
   obtain ⟨i,hi,hz0,hz1,hz2⟩:=info_parts T.inf
   have hl0:l=[]:=List.eq_nil_of_length_eq_zero hr.1.1
   subst hl0
   obtain ⟨a',c',rfl,_⟩:=owns_shape hown
   have hrun:=run_append_owned_none (P:=P) (w:=w) base t o.type e i 1 T.und hi _ n xs hown
   unfold Oper.wp
   simp only [execOp,ho,resolve,invoke,builtin,List.map_toArray,List.map_cons,List.map_nil,hs,hx,hrun,Result.andThen,Sem.run_bind,Sem.run_pure]
   exact h a' c' w (by simpa using hown) ⟨rfl,rfl,rfl,Nat.le_refl _,fun _ _ _=>rfl⟩ (.inl rfl)
 | some ad=>exact S_appendN hgd s x t ho T base v n xs hs hown ad m c (l.flatMap Sv) hx (by rw [flat_len Sv 1 Sv_len,hr.1.1]) (hr.1.cells Sv_len (by decide) rfl) one_sv hb hm hbase h
end

/-- Types of rows that a book does not write. -/
def TK (t:TypeId):Prop:=t ≠ 24∧t ≠ 35
theorem tk22 {t:TypeId} (h:TK t) {a b:Array Value} {f g:Nat × Nat}:(some (Obj.cells a 24 f):Option Obj) ≠ some (Obj.cells b t g):=by
 intro e
 simp only [Option.some.injEq,Obj.cells.injEq] at e
 exact h.1 e.2.1.symm
theorem tk56 {t:TypeId} (h:TK t) {a b:Array Value} {f g:Nat × Nat}:(some (Obj.cells a 35 f):Option Obj) ≠ some (Obj.cells b t g):=by
 intro e
 simp only [Option.some.injEq,Obj.cells.injEq] at e
 exact h.2 e.2.1.symm
/-- Rows that are no book's stand. -/
def Keep5 (w w':World):Prop:=∀ (k:Nat) (cs:Array Value) (t:TypeId) (fz:Nat × Nat),TK t→w.heap[k]?=some (Obj.cells cs t fz)→w'.heap[k]?=w.heap[k]?
theorem Keep5.refl (w:World):Keep5 w w:=fun _ _ _ _ _ _=>rfl
theorem Keep5.trans {a b c:World} (h:Keep5 a b) (k:Keep5 b c):Keep5 a c:=fun g cs t fz ht hg=>(k g cs t fz ht ((h g cs t fz ht hg).trans hg)).trans (h g cs t fz ht hg)
theorem Keep5.row {w w':World} {B e s:Nat} {v:Value} {n:Nat} {xs:List Value} (k:Keep5 w w') (ht:TK e) (h:w.ownsRow B e s v n xs):w'.ownsRow B e s v n xs:=by
 refine ⟨h.1,?_⟩
 rcases h.2 with h | ⟨g,cap,cur,hv,hb,hg,r⟩
 · exact .inl h
 · exact .inr ⟨g,cap,cur,hv,hb,(k g _ _ _ ht hg).trans hg,r⟩
theorem Keep5.owns {w w':World} {B:Nat} {v:Value} {n:Nat} {xs:List Value} (k:Keep5 w w') (h:w.ownsRow B 9 1 v n xs):w'.ownsRow B 9 1 v n xs:=k.row ⟨by decide,by decide⟩ h
theorem Keep5.grown {w w':World} {row:Option Nat} (h:w.grownBy w' row) (hr:∀ k,row=some k→∀ (cs:Array Value) (t:TypeId) (fz:Nat × Nat),TK t→w.heap[k]? ≠ some (Obj.cells cs t fz)):Keep5 w w':=fun g cs t fz ht hg =>
 h.block g (Array.getElem?_eq_some_iff.1 hg).1 (fun e=>hr g e.symm cs t fz ht hg)
theorem Keep5.setCell (w:World) (g o:Nat) (u:Value) (hr:∀ (cs:Array Value) (t:TypeId) (fz:Nat × Nat),TK t→w.heap[g]? ≠ some (Obj.cells cs t fz)):Keep5 w (w.setCell ⟨g,o,none⟩ u):=fun k cs t fz ht hk =>
 heap_setCell_other w ⟨g,o,none⟩ k _ (fun e=>hr cs t fz ht (by subst e;exact hk))

structure Its (w:World) (B:Nat) (ls ws:List Value) (ds:List (List ByteArray)):Prop where
 l1:ls.length=ds.length
 l2:ws.length=ds.length
 own:∀ (i:Nat) v u d,ls[i]?=some v→ws[i]?=some u→ds[i]?=some d→d.length≤281474976710656∧w.ownsRow B 9 1 v d.length (d.flatMap Sv)∧w.ownsRow B 9 1 u d.length (d.flatMap Sv)
 apart:∀ (i j:Nat) v v',i < j→ls[i]?=some v→ls[j]?=some v'→v.ownBlock=none∨v.ownBlock ≠ v'.ownBlock
theorem Its.keep {w w':World} {B:Nat} {ls ws:List Value} {ds:List (List ByteArray)} (h:Its w B ls ws ds) (k:Keep5 w w'):Its w' B ls ws ds :=
 ⟨h.l1,h.l2,fun i v u d hv hu hd=>by
   obtain ⟨h0,h1,h2⟩:=h.own i v u d hv hu hd
   exact ⟨h0,k.owns h1,k.owns h2⟩,h.apart⟩
theorem Its.tail {w:World} {B:Nat} {v u:Value} {ls ws:List Value} {d:List ByteArray} {ds:List (List ByteArray)} (h:Its w B (v :: ls) (u :: ws) (d :: ds)):Its w B ls ws ds :=
 ⟨by simpa using h.l1,by simpa using h.l2,fun i v' u' d' hv hu hd=>h.own (i+1) v' u' d' (by simpa using hv) (by simpa using hu) (by simpa using hd),
  fun i j v1 v2 hij h1 h2=>h.apart (i+1) (j+1) v1 v2 (by omega) (by simpa using h1) (by simpa using h2)⟩
theorem Its.snoc {w:World} {B:Nat} {v u:Value} {ls ws:List Value} {d:List ByteArray} {ds:List (List ByteArray)} (h:Its w B ls ws ds) (hd:d.length≤281474976710656) (hv:w.ownsRow B 9 1 v d.length (d.flatMap Sv)) (hu:w.ownsRow B 9 1 u d.length (d.flatMap Sv))
 (ha:∀ x ∈ ls,x.ownBlock=none∨x.ownBlock ≠ v.ownBlock):Its w B (ls++[v]) (ws++[u]) (ds++[d]):=by
 have l1:=h.l1
 have l2:=h.l2
 refine ⟨by simp [l1],by simp [l2],fun i v' u' d' h1 h2 h3=>?_,fun i j v1 v2 hij h1 h2=>?_⟩
 · rcases Nat.lt_trichotomy i ds.length with hi | hi | hi
   · rw [List.getElem?_append_left (by omega)] at h1 h2 h3
     exact h.own i v' u' d' h1 h2 h3
   · rw [List.getElem?_append_right (by omega)] at h1 h2 h3
     rw [l1] at h1;rw [l2] at h2
     simp [hi] at h1 h2 h3
     subst h1 h2 h3
     exact ⟨hd,hv,hu⟩
   · rw [List.getElem?_eq_none (by simp [l1];omega)] at h1
     cases h1
 · have hj:j < ls.length+1:=by
    have:=(List.getElem?_eq_some_iff.1 h2).1
    simpa using this
   rw [List.getElem?_append_left (by omega)] at h1
   rcases Nat.lt_or_ge j ls.length with hj2 | hj2
   · rw [List.getElem?_append_left hj2] at h2
     exact h.apart i j v1 v2 hij h1 h2
   · obtain rfl:j=ls.length:=by omega
     simp at h2
     subst h2
     exact ha v1 (List.mem_of_getElem? h1)

/-- A book of rows of bytes, with nothing bad seen. -/
def BkI (w:World) (B gb:Nat) (ls ws:List Value) (ds:List (List ByteArray)):Prop :=
 ∃ lv wv held,w.heap[gb]?=some (Obj.cells #[lv,wv,.int .i64 held,.bool false] 35 (0,0))∧B≤gb∧OwA w B 24 lv ls∧OwA w B 24 wv ws∧(lv.ownBlock=none∨lv.ownBlock ≠ wv.ownBlock)∧-9223372036854775808≤held∧held≤9223372036854775807∧Its w B ls ws ds
theorem OwA.ne {w:World} {B e t:Nat} {v:Value} {xs:List Value} (h:OwA w B e v xs) {g:Nat} {cs:Array Value} {fz:Nat × Nat} (hg:w.heap[g]?=some (Obj.cells cs t fz)) (hne:t ≠ e):some g ≠ v.ownBlock:=by
 intro hk
 obtain ⟨_,_,cur,hc⟩:=h.lt g hk.symm
 rw [hg] at hc
 simp at hc
 exact hne hc.2.1

theorem wrap64_ge (n:Int):-9223372036854775808≤wrap64 n:=by unfold wrap64;omega
theorem wrap64_le (n:Int):wrap64 n≤9223372036854775807:=by unfold wrap64;omega
theorem dropA_block (b o k c:Nat) (n:Nat) (m:Nat):(Value.slice (dropA (some ⟨b,o,none⟩) k c) n m).ownBlock=some b:=by
 unfold dropA
 split <;> simp [Value.ownBlock,Addr.add_lit]
theorem book_dropped {wr w':World} {B gb b1 o1 b2 o2 M cl cw:Nat} {held held':Int} {L W:List Value} {D:List (List ByteArray)}
 (hoth:∀ k,k ≠ gb→w'.heap[k]?=wr.heap[k]?) (hg':w'.heap[gb]?=some (Obj.cells #[.slice (dropA (some ⟨b1,o1,none⟩) 1 cl) (M - 1) (cl - 1),.slice (dropA (some ⟨b2,o2,none⟩) 1 cw) (M - 1) (cw - 1),.int .i64 held',.bool false] 35 (0,0)))
 (hg:wr.heap[gb]?=some (Obj.cells #[.slice (some ⟨b1,o1,none⟩) M cl,.slice (some ⟨b2,o2,none⟩) M cw,.int .i64 held,.bool false] 35 (0,0))) (hB:B≤gb) (hgb1:gb ≠ b1) (hgb2:gb ≠ b2)
 (hT:OwA wr B 24 (.slice (dropA (some ⟨b1,o1,none⟩) 1 cl) (M - 1) (cl - 1)) L) (hU:OwA wr B 24 (.slice (dropA (some ⟨b2,o2,none⟩) 1 cw) (M - 1) (cw - 1)) W)
 (hlw:(Value.slice (some ⟨b1,o1,none⟩) M cl).ownBlock=none∨(Value.slice (some ⟨b1,o1,none⟩) M cl).ownBlock ≠ (Value.slice (some ⟨b2,o2,none⟩) M cw).ownBlock)
 (h0:-9223372036854775808≤held') (h1:held'≤9223372036854775807) (hI:Its wr B L W D):BkI w' B gb L W D∧Keep5 wr w':=by
 have hk:Keep5 wr w':=fun k cs t fz ht hk=>hoth k (fun e=>by subst e;rw [hg] at hk;exact tk56 ht hk)
 refine ⟨⟨_,_,_,hg',hB,hT.kept (fun k h=>?_),hU.kept (fun k h=>?_),?_,h0,h1,hI.keep hk⟩,hk⟩
 · rw [dropA_block] at h
   exact hoth k (fun e=>hgb1 (by rw [← e];exact (Option.some.inj h).symm))
 · rw [dropA_block] at h
   exact hoth k (fun e=>hgb2 (by rw [← e];exact (Option.some.inj h).symm))
 · rw [dropA_block,dropA_block]
   exact hlw
/-- How many lists a book holds. -/
def bkLen (w:World) (gb:Nat):Nat:=match w.cell? ⟨gb,0,none⟩ with | some (Value.slice _ n _)=>n | _=>0
theorem bkLen_eq {w:World} {gb:Nat} {a:Option Addr} {n c:Nat} (h:w.cell? ⟨gb,0,none⟩=some (Value.slice a n c)):bkLen w gb=n:=by simp [bkLen,h]
theorem keep_any (w:World) (B gb:Nat) (ls ws:List Value) (ds:List (List ByteArray)) (h:BkI w B gb ls ws ds) (hl:ds.length≤4000) (a:Option Addr) (n c:Nat) (d:List ByteArray) (ho:w.ownsRow B 9 1 (.slice a n c) n (d.flatMap Sv)) (hn:n≤1000000)
 (hap:∀ x ∈ ls,x.ownBlock=none∨x.ownBlock ≠ (Value.slice a n c).ownBlock) :
 Calls Tryz.prog 11 #[.pointer (some ⟨gb,0,none⟩),.slice a n c] w fun e w'=>e=.returned (.tuple #[])∧(∃ u k,(∀ q,u.ownBlock=some q→w.heap.size≤q)∧BkI w' B gb ((ls++[Value.slice a n c]).drop k) ((ws++[u]).drop k) ((ds++[d]).drop k)∧((ds++[d]).drop k).length≤4000)∧Below B w w'∧Keep5 w w':=by
 obtain ⟨lv,wv,held,hg,hB,hlv,hwv,hlw,h0,h1,hI⟩:=h
 have e1:=hI.l1
 have e2:=hI.l2
 obtain ⟨al,cl,rfl,-⟩:=hlv.rv (by omega)
 obtain ⟨aw,cw,rfl,-⟩:=hwv.rv (by omega)
 have hne1:=hlv.ne hg (by decide)
 have hne2:=hwv.ne hg (by decide)
 have hll:ls.length≤4000:=by omega
 have hwl:ws.length≤4000:=by omega
 have E1:=Lib.hid e1
 have E2:=Lib.hid e2
 have HI:=Lib.hid hI
 clear e1 e2 hI
 have Hg:=Lib.hid hg
 have HO:=Lib.hid ho
 have HP:=Lib.hid hap
 have hlt:=(Array.getElem?_eq_some_iff.1 hg).1
 have c0:=cell_of_row w gb 0 _ _ _ hg
 have f:=fun o=>frozen_of_row w gb o _ _ hg
 simp at c0
 clear hap ho hg
 go_enter Tryz.func11,Tryz.ntmps11
 go_wp2_with (first
  | (at_builtin;refine L_appendA rfl _ _ _ rfl slB B (.slice al ls.length cl) ls rfl (hlv.kept (fun k hk=>Below.heap_alloc w _ k (hlv.lt k hk).2.1)) ⟨w.heap.size,0,none⟩ 1 (.slice a n c) rfl (by simp) rfl (by omega) (by simp [maxLen];omega) (by simp;omega) (fun a1 c1 w1 ho1 hg1 hat1=>?_)
     have hgw1:=(hg1.block gb (by simp;omega) hne1).trans ((Below.heap_alloc w _ gb hlt).trans Hg.out)
     have c01:=cell_of_row w1 gb 0 _ _ _ hgw1
     have f01:=fun o=>frozen_of_row w1 gb o _ _ hgw1))
 have hne3:=ho1.ne hgw1 (by decide)
 have hg2:(w1.setCell ⟨gb,0,none⟩ (.slice (some a1) (ls.length+1) c1)).heap[gb]?=some (Obj.cells #[.slice (some a1) (ls.length+1) c1,.slice aw ws.length cw,.int .i64 held,.bool false] 35 (0,0)):=heap_setCell_same w1 gb 0 _ _ _ hgw1
 have hb1:Below B w w1:=((Below.refl B w).alloc (by omega) _).grown hg1 (by simp;omega) (fun k hk=>(hlv.lt k hk).1)
 have hb2:=hb1.setCell (p:=⟨gb,0,none⟩) hB (.slice (some a1) (ls.length+1) c1)
 have hk1:Keep5 w w1:=((Keep5.grown (World.grownBy_alloc w (.cells #[.slice a n c] 24) none) (by intro k hk;cases hk))).trans (Keep5.grown hg1 (fun k hk cs t fz ht=>by
  obtain ⟨_,hl2,cur,hc⟩:=hlv.lt k hk
  rw [Below.heap_alloc w _ k hl2,hc];exact tk22 ht))
 have hk2:=hk1.trans (Keep5.setCell w1 gb 0 (.slice (some a1) (ls.length+1) c1) (fun cs t fz ht=>by rw [hgw1];exact tk56 ht))
 have ho2:OwA (w1.setCell ⟨gb,0,none⟩ (.slice (some a1) (ls.length+1) c1)) B 24 (.slice (some a1) (ls.length+1) c1) (ls++[.slice a n c]):=ho1.kept (fun k hk=>heap_setCell_other w1 ⟨gb,0,none⟩ k _ (fun e=>hne3 (by rw [hk,e])))
 have hap1:some a1.block ≠ (Value.slice aw ws.length cw).ownBlock:=by
  rcases hat1 with h | h
  · rw [h]
    rcases hlw with h2 | h2
    · rw [h2] at h;cases h
    · exact h2
  · intro e
    have:=(hwv.lt _ e.symm).2.1
    simp at h;omega
 have hw2:OwA (w1.setCell ⟨gb,0,none⟩ (.slice (some a1) (ls.length+1) c1)) B 24 (.slice aw ws.length cw) ws:=hwv.kept (fun k hk=>by
  have hl2:=(hwv.lt k hk).2.1
  rw [heap_setCell_other w1 ⟨gb,0,none⟩ k _ (fun e=>hne2 (by rw [hk,e])),hg1.block k (by simp;omega) (fun e=>by
   rcases hlw with h2 | h2
   · rw [h2] at e;cases e
   · exact h2 (by rw [← e,hk])),Below.heap_alloc w _ k hl2])
 clear hg1 hgw1 c01 f01 hb1 hk1 hne3 ho1 hlv hwv hlw hat1 c0 f hne1 Hg
 generalize w1.setCell ⟨gb,0,none⟩ (.slice (some a1) (ls.length+1) c1)=w2 at *
 have hlt2:=(Array.getElem?_eq_some_iff.1 hg2).1
 have c21:=cell_of_row w2 gb 1 _ _ _ hg2
 have f2:=fun o=>frozen_of_row w2 gb o _ _ hg2
 simp at c21
 have HG2:=Lib.hid hg2
 have hr2:=And.intro (RS.of_owns (hk2.owns HO.out) (by decide) Sv_len (by omega)) (own_cap0 HO.out)
 have z2:=hb2.size
 have hB2:B≤w2.heap.size:=by omega
 clear hg2
 have HB1:=Lib.hid (show (0+n) * 16≤140737488355328 by omega)
 have HB2:=Lib.hid (show 0+n≤maxLen by simp [maxLen];omega)
 have HB3:=Lib.hid (show (ws.length+1) * 24≤140737488355328 by omega)
 have HB4:=Lib.hid (show ws.length+1≤maxLen by simp [maxLen];omega)
 go_upto_block 0 with (fail)
 go_cut [] (fun wx=>∃ u,(∀ q,u.ownBlock=some q→w.heap.size≤q)∧BkI wx B gb (ls++[Value.slice a n c]) (ws++[u]) (ds++[d])∧Below B w wx∧Keep5 w wx)
 case first =>
  go_region_law (first
   | (refine S_append8 rfl (.const (.slice none 0 0)) (.tmp 19) 24 (by rfl) sl45 B (.slice none 0 0) 0 [] (by rfl) (World.ownsRow_nil _ _ _ _) a n c d (by rfl) hr2 HB1.out HB2.out (by simpa using hB2) (fun a3 c3 w3 ho3 hg3 hat3=>?_)
      have c31:=(hg3.cell_far ⟨gb,1,none⟩ (by simpa using hlt2) (by simp [Value.ownBlock])).trans c21
      have f31:=(hg3.frozen_far ⟨gb,1,none⟩ (by simpa using hlt2) (by simp [Value.ownBlock])).trans (f2 1)
      have hca3:∀ o,(w3.alloc o).cell? ⟨gb,1,none⟩=some (.slice aw ws.length cw):=fun o=>by rw [World.cell?_alloc_past (hn:=by have:=hg3.size;simp at this;omega)];exact c31)
   | (refine S_appendA rfl (.tmp 18) (.tmp 21) 33 (by rfl) slB B (.slice aw ws.length cw) ws (by rfl) (hw2.kept (fun k hk=>by rw [Below.heap_alloc w3 _ k (by have:=(hw2.lt k hk).2.1;have:=hg3.size;simp at this;omega)];exact hg3.block k (hw2.lt k hk).2.1 (by simp [Value.ownBlock]))) ⟨w3.heap.size,0,none⟩ 1 (.slice a3 (0+n) c3) (by rfl) (by simp) rfl HB3.out HB4.out (by have:=hg3.size;simp at this;simp;omega) (fun a4 c4 w4 ho4 hg4 hat4=>?_)
      have z3:=hg3.size
      have hh3:=(hg3.block gb (by simpa using hlt2) (by simp [Value.ownBlock])).trans HG2.out
      have hh4:=(hg4.block gb (by simp at z3;simp;omega) hne2).trans ((Below.heap_alloc w3 _ gb (by simp at z3;omega)).trans hh3)
      have c41:=cell_of_row w4 gb 1 _ _ _ hh4
      have f41:=frozen_of_row w4 gb 1 _ _ hh4
      clear hh3))
  all_goals
   have hg5:(w4.setCell ⟨gb,1,none⟩ (.slice (some a4) (ws.length+1) c4)).heap[gb]?=some (Obj.cells #[.slice (some a1) (ls.length+1) c1,.slice (some a4) (ws.length+1) c4,.int .i64 held,.bool false] 35 (0,0)):=heap_setCell_same w4 gb 1 _ _ _ hh4
   have hne3:=ho2.ne HG2.out (by decide)
   have hne4:=ho4.ne hh4 (by decide)
   have hb4:Below B w w4:=((hb2.drew.grown hg3 (by simp;omega) (fun k hk=>by simp [Value.ownBlock] at hk)).alloc (by simp at z3;omega) _).grown hg4 (by simp at z3 ⊢;omega) (fun k hk=>(hw2.lt k hk).1)
   have hk4:Keep5 w2 w4:=(((show Keep5 w2 w2.drew from fun _ _ _ _ _ _=>rfl).trans (Keep5.grown hg3 (fun k hk=>by simp [Value.ownBlock] at hk))).trans (Keep5.grown (World.grownBy_alloc w3 (.cells #[.slice a3 n c3] 24) none) (by intro k hk;cases hk))).trans (Keep5.grown hg4 (fun k hk cs t fz ht=>by
    obtain ⟨_,hl2,cur,hc⟩:=hw2.lt k hk
    rw [Below.heap_alloc w3 _ k (by simp at z3;omega),hg3.block k (by simpa using hl2) (by simp [Value.ownBlock])]
    rw [show w2.drew.heap=w2.heap from rfl,hc];exact tk22 ht))
   have HUQ:=Lib.hid (show ∀ q,(Value.slice a3 (0+n) c3).ownBlock=some q→w.heap.size≤q from fun q hq=>by
    rcases hat3 with h | h
    · rw [h] at hq;simp [Value.ownBlock] at hq
    · rw [h] at hq
      have:=Option.some.inj hq
      simp at this;omega)
   have hk34:Keep5 w3 w4:=((Keep5.grown (World.grownBy_alloc w3 (.cells #[.slice a3 n c3] 24) none) (by intro k hk;cases hk))).trans (Keep5.grown hg4 (fun k hk cs t fz ht=>by
    obtain ⟨_,hl2,cur,hc⟩:=hw2.lt k hk
    rw [Below.heap_alloc w3 _ k (by simp at z3;omega),hg3.block k (by simpa using hl2) (by simp [Value.ownBlock])]
    rw [show w2.drew.heap=w2.heap from rfl,hc];exact tk22 ht))
   have hk45:=Keep5.setCell w4 gb 1 (.slice (some a4) (ws.length+1) c4) (fun cs t fz ht=>by rw [hh4];exact tk56 ht)
   have hl1:=(ho2.lt _ rfl).2.1
   have ho5:OwA (w4.setCell ⟨gb,1,none⟩ (.slice (some a4) (ws.length+1) c4)) B 24 (.slice (some a1) (ls.length+1) c1) (ls++[.slice a n c]):=ho2.kept (fun k hk=>by
    obtain rfl:a1.block=k:=by simpa [Value.ownBlock] using hk
    rw [heap_setCell_other w4 ⟨gb,1,none⟩ _ _ (fun e=>hne3 (by simp [Value.ownBlock,e])),hg4.block _ (by simp at z3;simp;omega) hap1,Below.heap_alloc w3 _ _ (by simp at z3;omega),hg3.block _ (by simpa using hl1) (by simp [Value.ownBlock])]
    rfl)
   have hw5:OwA (w4.setCell ⟨gb,1,none⟩ (.slice (some a4) (ws.length+1) c4)) B 24 (.slice (some a4) (ws.length+1) c4) (ws++[.slice a3 (0+n) c3]):=ho4.kept (fun k hk=>heap_setCell_other w4 ⟨gb,1,none⟩ k _ (fun e=>hne4 (by rw [hk,e])))
   have hap5:(Value.slice (some a1) (ls.length+1) c1).ownBlock=none∨(Value.slice (some a1) (ls.length+1) c1).ownBlock ≠ (Value.slice (some a4) (ws.length+1) c4).ownBlock:=by
    right
    simp only [Value.ownBlock]
    intro e
    rcases hat4 with h | h
    · exact hap1 (by rw [e,h])
    · obtain e:=Option.some.inj e
      simp at h z3;omega
   have hI5:Its (w4.setCell ⟨gb,1,none⟩ (.slice (some a4) (ws.length+1) c4)) B (ls++[.slice a n c]) (ws++[.slice a3 (0+n) c3]) (ds++[d]):=by
    have hdn:d.length=n:=by have:=HO.out.1;rw [flat_len Sv 1 Sv_len] at this;omega
    refine (HI.out.keep ((hk2.trans hk4).trans hk45)).snoc (by omega) ?_ ?_ HP.out
    · rw [hdn];exact ((hk2.trans hk4).trans hk45).owns HO.out
    · have:=(hk34.trans hk45).owns ho3
      rw [hdn]
      simpa using this
   have hb5:=hb4.setCell (p:=⟨gb,1,none⟩) hB (.slice (some a4) (ws.length+1) c4)
   have hk5:=(hk2.trans hk4).trans hk45
   generalize w4.setCell ⟨gb,1,none⟩ (.slice (some a4) (ws.length+1) c4)=w5 at *
   clear hk45 hk34 hk4 hb4 hne3 hne4 c41 f41 hh4 hat4 hg4 ho4 hca3 f31 c31 hat3 hg3 ho3 hr2 HG2 c21 f2 hw2 ho2 hk2 hb2 hap1 hne2 hl1 HB1 HB2 HB3 HB4 z2 z3 hB2
   go_wp2
   go_meet
   exact ⟨_,HUQ.out,⟨_,_,_,hg5,hB,ho5,hw5,hap5,h0,h1,hI5⟩,hb5,hk5⟩
 case rest =>
  obtain ⟨u,hUQ,hI2,hbc,hkc⟩:=hcut
  have HUQ:=Lib.hid hUQ
  clear hUQ
  clear hb2 HB1 HB2 HB3 HB4 hap1 hne2
  obtain ⟨lv,wv,held2,hg,-,hlv,hwv,hlw,h02,h12,hI2⟩:=hI2
  have c52:=cell_of_row wc gb 2 _ _ _ hg
  have f5:=frozen_of_row wc gb 2 _ _ hg
  simp at c52
  have HG5:=Lib.hid hg
  have HI2:=Lib.hid hI2
  clear hg hI2
  go_wp2_with fail
  have hg6:∀ u,(wc.setCell ⟨gb,2,none⟩ u).heap[gb]?=some (Obj.cells #[lv,wv,u,.bool false] 35 (0,0)):=fun u=>heap_setCell_same wc gb 2 _ _ _ HG5.out
  have hne5:=hlv.ne HG5.out (by decide)
  have hne6:=hwv.ne HG5.out (by decide)
  have hk56:=fun u=>Keep5.setCell wc gb 2 u (fun cs t fz ht=>by rw [HG5.out];exact tk56 ht)
  have hl5:=fun u=>hlv.kept (w':=wc.setCell ⟨gb,2,none⟩ u) (fun k hk=>heap_setCell_other wc ⟨gb,2,none⟩ k _ (fun e=>hne5 (by rw [hk,e])))
  have hw5:=fun u=>hwv.kept (w':=wc.setCell ⟨gb,2,none⟩ u) (fun k hk=>heap_setCell_other wc ⟨gb,2,none⟩ k _ (fun e=>hne6 (by rw [hk,e])))
  have hb5:=fun u=>hbc.setCell (p:=⟨gb,2,none⟩) hB u
  go_loopw [] (fun wr=>∃ k,k≤ls.length∧BkI wr B gb ((ls++[Value.slice a n c]).drop k) ((ws++[u]).drop k) ((ds++[d]).drop k)∧Below B w wr∧Keep5 w wr) (fun wr=>bkLen wr gb)
  case atStart =>
   refine ⟨0,by omega,⟨_,_,_,hg6 _,hB,hl5 _,hw5 _,hlw,?_,?_,HI2.out.keep (hk56 _)⟩,hb5 _,hkc.trans (hk56 _)⟩
   · exact wrap64_ge _
   · exact wrap64_le _
  case round =>
   clear hl5 hw5 hb5 hk56 hne5 hne6 hg6 hlv hwv hlw h02 h12 f5 c52 HG5 HI2
   obtain ⟨k,hk,⟨lv,wv,held,hg,-,hlv,hwv,hlw,h0,h1,hI⟩,hb,hkp⟩:=hrel
   have eL:((ls++[Value.slice a n c]).drop k).length=ls.length+1 - k:=by simp
   have hk1:(ls++[Value.slice a n c]).drop (k+1)=((ls++[Value.slice a n c]).drop k).drop 1:=by rw [List.drop_drop]
   have hk2:(ws++[u]).drop (k+1)=((ws++[u]).drop k).drop 1:=by rw [List.drop_drop]
   have hk3:(ds++[d]).drop (k+1)=((ds++[d]).drop k).drop 1:=by rw [List.drop_drop]
   obtain ⟨L,HKL⟩:∃ L,RowKit.Hid ((ls++[Value.slice a n c]).drop k=L):=⟨_,Lib.hid rfl⟩
   obtain ⟨W,HKW⟩:∃ L,RowKit.Hid ((ws++[u]).drop k=L):=⟨_,Lib.hid rfl⟩
   obtain ⟨D,HKD⟩:∃ L,RowKit.Hid ((ds++[d]).drop k=L):=⟨_,Lib.hid rfl⟩
   rw [HKL.out] at hk1 hlv hI eL
   rw [HKW.out] at hk2 hwv hI
   rw [HKD.out] at hk3 hI
   have e1:=hI.l1
   have e2:=hI.l2
   have HK1:=Lib.hid hk1;have HK2:=Lib.hid hk2;have HK3:=Lib.hid hk3
   clear hk1 hk2 hk3
   obtain ⟨al,cl,rfl,rl⟩:=hlv.rv (by omega)
   obtain ⟨aw,cw,rfl,rw'⟩:=hwv.rv (by omega)
   have c0:=cell_of_row wr gb 0 _ _ _ hg
   have c1:=cell_of_row wr gb 1 _ _ _ hg
   have c2:=cell_of_row wr gb 2 _ _ _ hg
   have c3:=cell_of_row wr gb 3 _ _ _ hg
   have f:=fun o=>frozen_of_row wr gb o _ _ hg
   simp at c0 c1 c2 c3
   have HG:=Lib.hid hg
   have HI:=Lib.hid hI
   have E1:=Lib.hid e1
   have E2:=Lib.hid e2
   have EL:=Lib.hid eL
   have hLs:L.length≤281474976710656:=by omega
   have hWs:W.length≤281474976710656:=by omega
   have HKK:=Lib.hid hk
   generalize hLN:L.length=N at *
   generalize hWN:W.length=M at *
   have HLN:=Lib.hid hLN
   have HWN:=Lib.hid hWN
   clear hg hI e1 e2 eL hk hLN hWN
   by_cases n1:1 < N
   · have hMN:M=N:=E2.out.trans E1.out.symm
     subst hMN
     cases L with
     | nil=>have:=HLN.out;simp at this;omega
     | cons v0 L =>
     cases W with
     | nil=>have:=HWN.out;simp at this;omega
     | cons u0 W =>
     cases D with
     | nil=>have:=HI.out.l1;simp at this
     | cons d0 D =>
     have HBK:=Lib.hid (show BkI wr B gb (v0 :: L) (u0 :: W) (d0 :: D) from ⟨_,_,_,HG.out,hB,hlv,hwv,hlw,h0,h1,HI.out⟩)
     obtain ⟨hd0,hv0,hu0⟩:=HI.out.own 0 v0 u0 d0 rfl rfl rfl
     obtain ⟨av,cv,rfl,-⟩:=owns_shape hv0
     obtain ⟨au,cu,rfl,-⟩:=owns_shape hu0
     have R1:=RS.of_owns hv0 (by decide) Sv_len hd0
     have R2:=RS.of_owns hu0 (by decide) Sv_len hd0
     obtain ⟨b1,o1,y1,rfl,hy1,hcy1⟩:=rl.at (i:=0) (by omega)
     obtain ⟨b2,o2,y2,rfl,hy2,hcy2⟩:=rw'.at (i:=0) (by omega)
     simp only [List.getElem?_cons_zero] at hy1 hy2
     obtain rfl:=Option.some.inj hy1
     obtain rfl:=Option.some.inj hy2
     have HT:=Lib.hid (hlv.tail (by have:=HLN.out;simp at this;omega))
     have HU:=Lib.hid (hwv.tail (by have:=HWN.out;simp at this;omega))
     have HI':=Lib.hid HI.out.tail
     have hbn1:=hlv.ne HG.out (by decide)
     have hbn2:=hwv.ne HG.out (by decide)
     have hcl:=rl.2.1
     have hcw:=rw'.2.1
     have hs1:=fun wx=>slice_from (P:=Tryz.prog) slB wx (some ⟨b1,o1,none⟩) M cl 1 1 rfl (by omega)
     have hs2:=fun wx=>slice_from (P:=Tryz.prog) slB wx (some ⟨b2,o2,none⟩) M cw 1 1 rfl (by omega)
     have HN1:=Lib.hid n1
     have hn0:(0:Int) < (M:Int):=by omega
     have hn00:0 < M:=by omega
     have n1':(1:Int) < (M:Int):=by omega
     have hdl:d0.length≤281474976710656:=hd0
     have HLW:=Lib.hid hlw
     simp only [Nat.add_zero] at hcy1 hcy2
     clear hy1 hy2 rl rw' hv0 hu0 hd0 hlv hwv n1 hlw
     generalize d0.length=m0 at *
     have hgb1:gb ≠ b1:=fun e=>hbn1 (by rw [e];rfl)
     have hgb2:gb ≠ b2:=fun e=>hbn2 (by rw [e];rfl)
     have hg3:∀ nq,((wr.drewN nq).setCell ⟨gb,3,none⟩ (.bool false)).heap[gb]?=some (Obj.cells #[.slice (some ⟨b1,o1,none⟩) M cl,.slice (some ⟨b2,o2,none⟩) M cw,.int .i64 held,.bool false] 35 (0,0)):=fun nq=>heap_setCell_same (wr.drewN nq) gb 3 _ _ _ HG.out
     have hks:∀ nq,((wr.drewN nq).setCell ⟨gb,3,none⟩ (.bool false)).cell? ⟨gb,3,none⟩=some (.bool false)∧((wr.drewN nq).setCell ⟨gb,3,none⟩ (.bool false)).cell? ⟨gb,0,none⟩=some (.slice (some ⟨b1,o1,none⟩) M cl)∧((wr.drewN nq).setCell ⟨gb,3,none⟩ (.bool false)).cell? ⟨gb,1,none⟩=some (.slice (some ⟨b2,o2,none⟩) M cw)∧((wr.drewN nq).setCell ⟨gb,3,none⟩ (.bool false)).cell? ⟨b1,o1,none⟩=some (.slice av m0 cv)∧((wr.drewN nq).setCell ⟨gb,3,none⟩ (.bool false)).cell? ⟨b2,o2,none⟩=some (.slice au m0 cu):=fun nq =>
      ⟨cell_of_row _ gb 3 _ _ _ (hg3 nq),cell_of_row _ gb 0 _ _ _ (hg3 nq),cell_of_row _ gb 1 _ _ _ (hg3 nq),(World.cell?_of_block (heap_setCell_other (wr.drewN nq) ⟨gb,3,none⟩ b1 _ (Ne.symm hgb1))).trans hcy1,(World.cell?_of_block (heap_setCell_other (wr.drewN nq) ⟨gb,3,none⟩ b2 _ (Ne.symm hgb2))).trans hcy2⟩
     have KS:=Lib.hid hks
     have HG3:=Lib.hid hg3
     clear hg3 hks
     by_cases n2:1000000 < held
     · go_wp2
       go_region_held3 (fun w=>w.cell? ⟨gb,3,none⟩=some (.bool false)∧w.cell? ⟨gb,0,none⟩=some (.slice (some ⟨b1,o1,none⟩) M cl)∧w.cell? ⟨gb,1,none⟩=some (.slice (some ⟨b2,o2,none⟩) M cw)∧w.cell? ⟨b1,o1,none⟩=some (.slice av m0 cv)∧w.cell? ⟨b2,o2,none⟩=some (.slice au m0 cu)) (first | exact ⟨c3,c0,c1,hcy1,hcy2⟩ | exact KS.out _) (first | (go_at_call 30;refine (same_any _ _ _ _ _ _ _ _ _ (rs_drewN R1 _) (rs_drewN R2 _) true ⟨rfl,rfl⟩).mono ?_;rintro e w' ⟨rfl,nn,rfl⟩))
       have hgk:=HG3.out (1+nn)
       have hoth:∀ k,k ≠ gb→((wr.drewN (1+nn)).setCell ⟨gb,3,none⟩ (.bool false)).heap[k]?=wr.heap[k]?:=fun k hk=>heap_setCell_other (wr.drewN (1+nn)) ⟨gb,3,none⟩ k _ hk
       have hbk:=(below_drewN hb (1+nn)).setCell (p:=⟨gb,3,none⟩) hB (.bool false)
       generalize (wr.drewN (1+nn)).setCell ⟨gb,3,none⟩ (.bool false)=w6 at *
       have d0:=cell_of_row w6 gb 0 _ _ _ hgk
       have d2:=cell_of_row w6 gb 2 _ _ _ hgk
       have fd:=fun o=>frozen_of_row w6 gb o _ _ hgk
       simp at d0 d2
       have db1:w6.cell? ⟨b1,o1,none⟩=some (.slice av m0 cv):=(World.cell?_of_block (hoth b1 (Ne.symm hgb1))).trans hcy1
       have HGK:=Lib.hid hgk
       have HOTH:=Lib.hid hoth
       clear hgk hoth c0 c1 c2 c3 f hcy1 hcy2
       go_wp2
       go_still_tail 14,(by kernel_rfl)
       change wpList _ _ _ _ _ w6.drew
       have e0:w6.drew.cell? ⟨gb,0,none⟩=_:=d0
       have e1:w6.drew.cell? ⟨gb,1,none⟩=some (.slice (some ⟨b2,o2,none⟩) M cw):=cell_of_row w6 gb 1 _ _ _ HGK.out
       have e2:w6.drew.cell? ⟨gb,2,none⟩=_:=d2
       have fe:∀ o,w6.drew.frozen? ⟨gb,o,none⟩=false:=fd
       have hbk7:Below B w w6.drew:=hbk.drew
       have HOTH7:=Lib.hid (show ∀ k,k ≠ gb→w6.drew.heap[k]?=wr.heap[k]? from HOTH.out)
       have HGK7:=Lib.hid (show w6.drew.heap[gb]?=_ from HGK.out)
       clear HOTH HGK d0 d2 fd hbk db1
       generalize w6.drew=w7 at *
       go_wp2
       generalize hX:wrap64 (wrap64 (held - (cv:Int)) - 1)=X
       have hX0:-9223372036854775808≤X:=by rw [← hX];exact wrap64_ge _
       have hX1:X≤9223372036854775807:=by rw [← hX];exact wrap64_le _
       have q1:=heap_setCell_same w7 gb 2 _ _ (.int .i64 X) HGK7.out
       have q2:=heap_setCell_same _ gb 0 _ _ (.slice (dropA (some ⟨b1,o1,none⟩) 1 cl) (M - 1) (cl - 1)) q1
       have q3:=heap_setCell_same _ gb 1 _ _ (.slice (dropA (some ⟨b2,o2,none⟩) 1 cw) (M - 1) (cw - 1)) q2
       have hb8:=((hbk7.setCell (p:=⟨gb,2,none⟩) hB (.int .i64 X)).setCell (p:=⟨gb,0,none⟩) hB (.slice (dropA (some ⟨b1,o1,none⟩) 1 cl) (M - 1) (cl - 1))).setCell (p:=⟨gb,1,none⟩) hB (.slice (dropA (some ⟨b2,o2,none⟩) 1 cw) (M - 1) (cw - 1))
       have hoth8:∀ k,k ≠ gb→(((w7.setCell ⟨gb,2,none⟩ (.int .i64 X)).setCell ⟨gb,0,none⟩ (.slice (dropA (some ⟨b1,o1,none⟩) 1 cl) (M - 1) (cl - 1))).setCell ⟨gb,1,none⟩ (.slice (dropA (some ⟨b2,o2,none⟩) 1 cw) (M - 1) (cw - 1))).heap[k]?=wr.heap[k]?:=fun k hk=>by
        rw [heap_setCell_other _ ⟨gb,1,none⟩ k _ hk,heap_setCell_other _ ⟨gb,0,none⟩ k _ hk,heap_setCell_other _ ⟨gb,2,none⟩ k _ hk,HOTH7.out k hk]
       generalize ((w7.setCell ⟨gb,2,none⟩ (.int .i64 X)).setCell ⟨gb,0,none⟩ (.slice (dropA (some ⟨b1,o1,none⟩) 1 cl) (M - 1) (cl - 1))).setCell ⟨gb,1,none⟩ (.slice (dropA (some ⟨b2,o2,none⟩) 1 cw) (M - 1) (cw - 1))=w8 at *
       obtain ⟨hbk8,hkk8⟩:=book_dropped hoth8 q3 HG.out hB hgb1 hgb2 HT.out HU.out HLW.out hX0 hX1 HI'.out
       have z0:=bkLen_eq (cell_of_row w8 gb 0 _ _ _ q3)
       have z1:=bkLen_eq (cell_of_row wr gb 0 _ _ _ HG.out)
       refine ⟨⟨k+1,by have:=EL.out;omega,by rw [HK1.out,HK2.out,HK3.out];exact hbk8,hb8,hkp.trans hkk8⟩,?_⟩
       rw [z0,z1];omega
     · have n2':=Lib.hid n2
       by_cases n3:4000 < M
       · go_wp2
         go_region_held3 (fun w=>w.cell? ⟨gb,3,none⟩=some (.bool false)∧w.cell? ⟨gb,0,none⟩=some (.slice (some ⟨b1,o1,none⟩) M cl)∧w.cell? ⟨gb,1,none⟩=some (.slice (some ⟨b2,o2,none⟩) M cw)∧w.cell? ⟨b1,o1,none⟩=some (.slice av m0 cv)∧w.cell? ⟨b2,o2,none⟩=some (.slice au m0 cu)) (first | exact ⟨c3,c0,c1,hcy1,hcy2⟩ | exact KS.out _) (first | (go_at_call 30;refine (same_any _ _ _ _ _ _ _ _ _ (rs_drewN R1 _) (rs_drewN R2 _) true ⟨rfl,rfl⟩).mono ?_;rintro e w' ⟨rfl,nn,rfl⟩))
         have hgk:=HG3.out (1+nn)
         have hoth:∀ k,k ≠ gb→((wr.drewN (1+nn)).setCell ⟨gb,3,none⟩ (.bool false)).heap[k]?=wr.heap[k]?:=fun k hk=>heap_setCell_other (wr.drewN (1+nn)) ⟨gb,3,none⟩ k _ hk
         have hbk:=(below_drewN hb (1+nn)).setCell (p:=⟨gb,3,none⟩) hB (.bool false)
         generalize (wr.drewN (1+nn)).setCell ⟨gb,3,none⟩ (.bool false)=w6 at *
         have d0:=cell_of_row w6 gb 0 _ _ _ hgk
         have d2:=cell_of_row w6 gb 2 _ _ _ hgk
         have fd:=fun o=>frozen_of_row w6 gb o _ _ hgk
         simp at d0 d2
         have db1:w6.cell? ⟨b1,o1,none⟩=some (.slice av m0 cv):=(World.cell?_of_block (hoth b1 (Ne.symm hgb1))).trans hcy1
         have HGK:=Lib.hid hgk
         have HOTH:=Lib.hid hoth
         clear hgk hoth c0 c1 c2 c3 f hcy1 hcy2
         go_wp2
         go_still_tail 14,(by kernel_rfl)
         change wpList _ _ _ _ _ w6.drew
         have e0:w6.drew.cell? ⟨gb,0,none⟩=_:=d0
         have e1:w6.drew.cell? ⟨gb,1,none⟩=some (.slice (some ⟨b2,o2,none⟩) M cw):=cell_of_row w6 gb 1 _ _ _ HGK.out
         have e2:w6.drew.cell? ⟨gb,2,none⟩=_:=d2
         have fe:∀ o,w6.drew.frozen? ⟨gb,o,none⟩=false:=fd
         have hbk7:Below B w w6.drew:=hbk.drew
         have HOTH7:=Lib.hid (show ∀ k,k ≠ gb→w6.drew.heap[k]?=wr.heap[k]? from HOTH.out)
         have HGK7:=Lib.hid (show w6.drew.heap[gb]?=_ from HGK.out)
         clear HOTH HGK d0 d2 fd hbk db1
         generalize w6.drew=w7 at *
         go_wp2
         generalize hX:wrap64 (wrap64 (held - (cv:Int)) - 1)=X
         have hX0:-9223372036854775808≤X:=by rw [← hX];exact wrap64_ge _
         have hX1:X≤9223372036854775807:=by rw [← hX];exact wrap64_le _
         have q1:=heap_setCell_same w7 gb 2 _ _ (.int .i64 X) HGK7.out
         have q2:=heap_setCell_same _ gb 0 _ _ (.slice (dropA (some ⟨b1,o1,none⟩) 1 cl) (M - 1) (cl - 1)) q1
         have q3:=heap_setCell_same _ gb 1 _ _ (.slice (dropA (some ⟨b2,o2,none⟩) 1 cw) (M - 1) (cw - 1)) q2
         have hb8:=((hbk7.setCell (p:=⟨gb,2,none⟩) hB (.int .i64 X)).setCell (p:=⟨gb,0,none⟩) hB (.slice (dropA (some ⟨b1,o1,none⟩) 1 cl) (M - 1) (cl - 1))).setCell (p:=⟨gb,1,none⟩) hB (.slice (dropA (some ⟨b2,o2,none⟩) 1 cw) (M - 1) (cw - 1))
         have hoth8:∀ k,k ≠ gb→(((w7.setCell ⟨gb,2,none⟩ (.int .i64 X)).setCell ⟨gb,0,none⟩ (.slice (dropA (some ⟨b1,o1,none⟩) 1 cl) (M - 1) (cl - 1))).setCell ⟨gb,1,none⟩ (.slice (dropA (some ⟨b2,o2,none⟩) 1 cw) (M - 1) (cw - 1))).heap[k]?=wr.heap[k]?:=fun k hk=>by
          rw [heap_setCell_other _ ⟨gb,1,none⟩ k _ hk,heap_setCell_other _ ⟨gb,0,none⟩ k _ hk,heap_setCell_other _ ⟨gb,2,none⟩ k _ hk,HOTH7.out k hk]
         generalize ((w7.setCell ⟨gb,2,none⟩ (.int .i64 X)).setCell ⟨gb,0,none⟩ (.slice (dropA (some ⟨b1,o1,none⟩) 1 cl) (M - 1) (cl - 1))).setCell ⟨gb,1,none⟩ (.slice (dropA (some ⟨b2,o2,none⟩) 1 cw) (M - 1) (cw - 1))=w8 at *
         obtain ⟨hbk8,hkk8⟩:=book_dropped hoth8 q3 HG.out hB hgb1 hgb2 HT.out HU.out HLW.out hX0 hX1 HI'.out
         have z0:=bkLen_eq (cell_of_row w8 gb 0 _ _ _ q3)
         have z1:=bkLen_eq (cell_of_row wr gb 0 _ _ _ HG.out)
         refine ⟨⟨k+1,by have:=EL.out;omega,by rw [HK1.out,HK2.out,HK3.out];exact hbk8,hb8,hkp.trans hkk8⟩,?_⟩
         rw [z0,z1];omega
       · have HH:=Lib.hid (show BkI wr B gb (.slice av m0 cv :: L) (.slice au m0 cu :: W) (d0 :: D) from HBK.out)
         have hN3:M≤4000:=by omega
         have hN2:held≤1000000:=by omega
         go_wp2
         go_end0
         exact ⟨rfl,⟨u,HUQ.out,k,by rw [HKL.out,HKW.out,HKD.out];exact HH.out,by have h1:=congrArg List.length HKD.out;have h2:=HI.out.l1;have h3:=HLN.out;simp at h1 h2 h3;omega⟩,hb,hkp⟩
   · have HN:=Lib.hid n1
     have HH:=Lib.hid (show BkI wr B gb L W D from ⟨_,_,_,HG.out,hB,hlv,hwv,hlw,h0,h1,HI.out⟩)
     clear hlv hwv hlw
     go_wp2
     go_end0
     exact ⟨rfl,⟨u,HUQ.out,k,by rw [HKL.out,HKW.out,HKD.out];exact HH.out,by have h1:=congrArg List.length HKD.out;have h2:=HI.out.l1;have h3:=HLN.out;have h4:=HN.out;simp at h1;omega⟩,hb,hkp⟩

theorem BkI.oth {w w':World} {B gb:Nat} {ls ws:List Value} {ds:List (List ByteArray)} (h:BkI w B gb ls ws ds) (ho:∀ k:Nat,w'.heap[k]?=w.heap[k]?):BkI w' B gb ls ws ds:=by
 obtain ⟨lv,wv,held,hg,hB,hlv,hwv,hlw,h0,h1,hI⟩:=h
 exact ⟨lv,wv,held,(ho gb).trans hg,hB,hlv.kept (fun k _=>ho k),hwv.kept (fun k _=>ho k),hlw,h0,h1,hI.keep (fun k _ _ _ _ _=>ho k)⟩

theorem stays_any (w:World) (B gb:Nat) (ls ws:List Value) (ds:List (List ByteArray)) (h:BkI w B gb ls ws ds) (hl:ds.length≤4001) :
 Calls Tryz.prog 31 #[.pointer (some ⟨gb,0,none⟩)] w fun e w'=>e=.returned (.bool true)∧(∀ k:Nat,w'.heap[k]?=w.heap[k]?)∧Below B w w':=by
 obtain ⟨lv,wv,held,hg,hB,hlv,hwv,hlw,h0,h1,hI⟩:=h
 have e1:=hI.l1
 have e2:=hI.l2
 obtain ⟨al,cl,rfl,rl⟩:=hlv.rv (by omega)
 obtain ⟨aw,cw,rfl,rw'⟩:=hwv.rv (by omega)
 have E1:=Lib.hid e1
 have E2:=Lib.hid e2
 have HI:=Lib.hid hI
 have hN:ls.length≤4001:=by omega
 generalize hM:ws.length=M at *
 generalize hNN:ls.length=N at *
 have hMN:M=N:=by have:=E1.out;have:=E2.out;omega
 subst hMN
 have hgb1:∀ b o,al=some ⟨b,o,none⟩→gb ≠ b:=fun b o e h=>hlv.ne hg (by decide) (by rw [e,h];rfl)
 have hgb2:∀ b o,aw=some ⟨b,o,none⟩→gb ≠ b:=fun b o e h=>hwv.ne hg (by decide) (by rw [e,h];rfl)
 have HLW:=Lib.hid hlw
 have HG:=Lib.hid hg
 clear e1 e2 hI hM hNN hlw hg hl
 go_enter Tryz.func31,Tryz.ntmps31
 go_wp2
 go_loopw [3] (fun x wr=>∃ i:Nat,i≤M∧x=.int .i64 i∧(∀ k:Nat,wr.heap[k]?=w.heap[k]?)∧Below B w wr) (fun x _=>M - (intOf x).toNat)
 case atStart=>exact ⟨0,by omega,rfl,fun _=>rfl,Below.refl _ _⟩
 case round =>
  obtain ⟨i,hi,rfl,hk,hb⟩:=hrel
  have hg:=(hk gb).trans HG.out
  have c0:=cell_of_row wr gb 0 _ _ _ hg
  have c1:=cell_of_row wr gb 1 _ _ _ hg
  have c3:=cell_of_row wr gb 3 _ _ _ hg
  have f:=fun o=>frozen_of_row wr gb o _ _ hg
  simp at c0 c1 c3
  have HK:=Lib.hid hk
  have HGW:=Lib.hid hg
  clear hk hg
  by_cases hlt:i < M
  · obtain ⟨b1,o1,y1,ha1,hy1,hcy1⟩:=rl.at hlt
    obtain ⟨b2,o2,y2,ha2,hy2,hcy2⟩:=rw'.at hlt
    obtain ⟨hd,hv,hu⟩:=HI.out.own i y1 y2 ds[i] hy1 hy2 (by simp)
    generalize ds[i]=d at *
    obtain ⟨av,cv,rfl,-⟩:=owns_shape hv
    obtain ⟨au,cu,rfl,-⟩:=owns_shape hu
    have K5:Keep5 w wr:=fun k _ _ _ _ _=>HK.out k
    have R1:=RS.of_owns (K5.owns hv) (by decide) Sv_len hd
    have R2:=RS.of_owns (K5.owns hu) (by decide) Sv_len hd
    have hgb1':=hgb1 _ _ ha1
    have hgb2':=hgb2 _ _ ha2
    subst ha1 ha2
    have hc1:wr.cell? ⟨b1,o1+i,none⟩=_:=(World.cell?_of_block (HK.out b1)).trans hcy1
    have hc2:wr.cell? ⟨b2,o2+i,none⟩=_:=(World.cell?_of_block (HK.out b2)).trans hcy2
    have hg3:∀ nq,((wr.drewN nq).setCell ⟨gb,3,none⟩ (.bool false)).heap[gb]?=some (Obj.cells #[.slice (some ⟨b1,o1,none⟩) M cl,.slice (some ⟨b2,o2,none⟩) M cw,.int .i64 held,.bool false] 35 (0,0)):=fun nq=>heap_setCell_same (wr.drewN nq) gb 3 _ _ _ HGW.out
    have hks:∀ nq,((wr.drewN nq).setCell ⟨gb,3,none⟩ (.bool false)).cell? ⟨gb,3,none⟩=some (.bool false)∧((wr.drewN nq).setCell ⟨gb,3,none⟩ (.bool false)).cell? ⟨gb,0,none⟩=some (.slice (some ⟨b1,o1,none⟩) M cl)∧((wr.drewN nq).setCell ⟨gb,3,none⟩ (.bool false)).cell? ⟨gb,1,none⟩=some (.slice (some ⟨b2,o2,none⟩) M cw)∧((wr.drewN nq).setCell ⟨gb,3,none⟩ (.bool false)).cell? ⟨b1,o1+i,none⟩=some (.slice av d.length cv)∧((wr.drewN nq).setCell ⟨gb,3,none⟩ (.bool false)).cell? ⟨b2,o2+i,none⟩=some (.slice au d.length cu):=fun nq =>
     ⟨cell_of_row _ gb 3 _ _ _ (hg3 nq),cell_of_row _ gb 0 _ _ _ (hg3 nq),cell_of_row _ gb 1 _ _ _ (hg3 nq),(World.cell?_of_block (heap_setCell_other (wr.drewN nq) ⟨gb,3,none⟩ b1 _ (Ne.symm hgb1'))).trans hc1,(World.cell?_of_block (heap_setCell_other (wr.drewN nq) ⟨gb,3,none⟩ b2 _ (Ne.symm hgb2'))).trans hc2⟩
    have KS:=Lib.hid hks
    have HG3:=Lib.hid hg3
    clear hg3 hks hcy1 hcy2 hv hu hy1 hy2 hgb1 hgb2 hlv hwv rl rw' K5
    generalize d.length=m0 at *
    have hlt':(i:Int) < (M:Int):=by omega
    go_wp2
    go_region_held3 (fun w=>w.cell? ⟨gb,3,none⟩=some (.bool false)∧w.cell? ⟨gb,0,none⟩=some (.slice (some ⟨b1,o1,none⟩) M cl)∧w.cell? ⟨gb,1,none⟩=some (.slice (some ⟨b2,o2,none⟩) M cw)∧w.cell? ⟨b1,o1+i,none⟩=some (.slice av m0 cv)∧w.cell? ⟨b2,o2+i,none⟩=some (.slice au m0 cu)) (first | exact ⟨c3,c0,c1,hc1,hc2⟩ | exact KS.out _) (first | (go_at_call 30;refine (same_any _ _ _ _ _ _ _ _ _ (rs_drewN R1 _) (rs_drewN R2 _) true ⟨rfl,rfl⟩).mono ?_;rintro e w' ⟨rfl,nn,rfl⟩))
    have hoth:∀ k:Nat,((wr.drewN (1+nn)).setCell ⟨gb,3,none⟩ (.bool false)).heap[k]?=wr.heap[k]?:=fun k=>by
     by_cases hk:k=gb
     · subst hk;rw [HG3.out,HGW.out]
     · exact heap_setCell_other (wr.drewN (1+nn)) ⟨gb,3,none⟩ k _ hk
    have hbk:=(below_drewN hb (1+nn)).setCell (p:=⟨gb,3,none⟩) hB (.bool false)
    generalize (wr.drewN (1+nn)).setCell ⟨gb,3,none⟩ (.bool false)=w6 at *
    have HO:=Lib.hid hoth
    clear hoth c0 c1 c3 f hc1 hc2
    go_wp2
    go_roundw
    case rel=>exact ⟨i+1,by omega,by go_num,fun k=>(HO.out k).trans (HK.out k),hbk⟩
    case measure=>simp [intOf];omega
  · clear hlv hwv rl rw'
    go_wp2
    go_ret
    exact ⟨rfl,HK.out,hb⟩

/-- A mark for lists of texts. -/
def mkT (i:Nat):ByteArray:=⟨#[109,97,114,107,32,UInt8.ofNat i,UInt8.ofNat (i / 256),UInt8.ofNat (i / 65536)]⟩
theorem conv3 (w:World) (b0 b1 b2:UInt8) (x0 x1 x2:Int) (h0:x0=(b0.toNat:Int)) (h1:x1=(b1.toNat:Int)) (h2:x2=(b2.toNat:Int)) :
 Sem.run Tryz.prog (convert 82 9 (.slice (some ⟨w.heap.size,0,none⟩) 3 3)) (w.alloc (.cells #[.int .u8 x0,.int .u8 x1,.int .u8 x2] 5))=.ok (.string ⟨#[b0,b1,b2]⟩) (w.alloc (.cells #[.int .u8 x0,.int .u8 x1,.int .u8 x2] 5)):=by
 subst h0 h1 h2
 have hb:Go.Lib.Bytes (w.alloc (.cells #[.int .u8 (b0.toNat:Int),.int .u8 (b1.toNat:Int),.int .u8 (b2.toNat:Int)] 5)) w.heap.size 0 ⟨#[b0,b1,b2]⟩:=by
  intro i hi
  rw [cell_of_row _ _ _ _ _ _ (heap_alloc_new w _)]
  have:i=0∨i=1∨i=2:=by have:i < 3:=hi;omega
  rcases this with rfl | rfl | rfl <;> rfl
 exact Go.Lib.run_convert_whole (P:=Tryz.prog) _ 82 5 9 (by kernel_rfl) (by kernel_rfl) (by kernel_rfl) _ 0 ⟨#[b0,b1,b2]⟩ hb 3
theorem markT_any (w:World) (i j:Nat) (hi:i≤4001):Calls Tryz.prog 13 #[.int .i64 i,.int .i64 j] w fun e w'=>e=.returned (.string (mkT i))∧Below w.heap.size w w':=by
 have q:∀ n:Nat,((n:Int)) % 256=((UInt8.ofNat n).toNat:Int):=fun n=>by simp
 have hc:=conv3 w (UInt8.ofNat i) (UInt8.ofNat (i / 256)) (UInt8.ofNat (i / 65536)) ((i:Int) % 256) ((i:Int) / 256) ((i:Int) / 65536) (q i) (by rw [← q];omega) (by rw [← q];omega)
 have HM:=Lib.hid (show mkT i=⟨#[109,97,114,107,32,UInt8.ofNat i,UInt8.ofNat (i / 256),UInt8.ofNat (i / 65536)]⟩ from rfl)
 clear q
 go_enter Tryz.func13,Tryz.ntmps13
 go_wp2
 go_ret
 refine ⟨by rw [HM.out];rfl,?_⟩
 exact (Below.refl _ _).alloc (Nat.le_refl _) _
theorem slice_to (wx:World) (a:Option Addr) (len cap h:Nat) (hc:h≤cap):(Instr.slice 24 (.slice a len cap) none (some (.int .i64 (h:Int))) none).run Tryz.prog wx=.ok (.slice a h cap) wx:=by
 obtain ⟨i,hi,hz0,hz1,hz2⟩:=info_parts sl45.inf
 have he:Tryz.prog.elem 24=9:=by simp [Program.elem,sl45.und]
 have h2:(sizeOf (Tryz.prog.elem 24)).run Tryz.prog wx=.ok 1 wx:=by rw [he];simp [sizeOf,typeInfo,hi,hz1]
 rw [run_slice_h wx 24 a len cap (by rw [he];exact sl45.und) .i64 h (by omega) (by omega),h2]
 have hid:∀ x:Option Addr,x.map (fun y=>y.add (0 * 1))=x:=by intro x;cases x <;> simp [Addr.add]
 simp only [Result.andThen,sliced,hid,ite_self]
 rfl
theorem keepg1 {w w':World} (hb:Below w.heap.size w w') {b o:Nat} {v:Value} (h:w.cell? ⟨b,o,none⟩=some v):w'.cell? ⟨b,o,none⟩=some v:=(hb.cell (p:=⟨b,o,none⟩) (block_lt_of_cell h)).trans h
/-- A row of texts of which the first m places are marked. -/
def Rw (w:World) (v:Value) (m:Nat) (k:ByteArray):Prop :=
 ∃ a n c,v=.slice a n c∧c < 9223372036854775808∧(c=0∨∃ g cur,a=some ⟨g,0,none⟩∧w.heap[g]?=some (.cells cur 9 (0,0))∧cur.size=c∧∀ j,j < m→j < c→cur[j]?=some (.string k))
theorem Rw.of_owns {w:World} {B:Nat} {v:Value} {n:Nat} {xs:List Value} (h:w.ownsRow B 9 1 v n xs) (k:ByteArray):Rw w v 0 k:=by
 rcases h.2 with ⟨rfl,rfl⟩ | ⟨g,cap,cur,rfl,hb,hg,hn,hm,hs,_⟩
 · exact ⟨none,0,0,rfl,by omega,.inl rfl⟩
 · refine ⟨_,_,cap,rfl,by simp [maxLen] at hm;omega,.inr ⟨g,cur,rfl,hg,by omega,fun j hj=>by omega⟩⟩
theorem Rw.kept {w w':World} {v:Value} {m:Nat} {k:ByteArray} (h:Rw w v m k) (hk:∀ g:Nat,v.ownBlock=some g→g < w.heap.size→w'.heap[g]?=w.heap[g]?):Rw w' v m k:=by
 obtain ⟨a,n,c,rfl,hc,h0 | ⟨g,cur,rfl,hg,hs,hm⟩⟩:=h
 · exact ⟨a,n,c,rfl,hc,.inl h0⟩
 · exact ⟨_,n,c,rfl,hc,.inr ⟨g,cur,rfl,(hk g rfl (Array.getElem?_eq_some_iff.1 hg).1).trans hg,hs,hm⟩⟩
theorem Rw.set {w:World} {g n c j:Nat} {k:ByteArray} (h:Rw w (.slice (some ⟨g,0,none⟩) n c) j k) (hj:j < c):Rw (w.setCell ⟨g,j,none⟩ (.string k)) (.slice (some ⟨g,0,none⟩) n c) (j+1) k:=by
 obtain ⟨a,n,c,hv,hc,h0 | ⟨g',cur,ha,hg,hs,hm⟩⟩:=h
 · obtain ⟨rfl,rfl,rfl⟩:=Value.slice.inj hv
   omega
 · obtain ⟨rfl,rfl,rfl⟩:=Value.slice.inj hv
   obtain rfl:g=g':=by simpa using ha
   have g1:=heap_setCell_same w g j _ _ (.string k) hg
   refine ⟨_,_,_,rfl,hc,.inr ⟨g,_,rfl,g1,by simp [hs],fun i hi hic=>?_⟩⟩
   simp only [Array.getElem?_setIfInBounds,Array.size_setIfInBounds]
   by_cases e:i=j
   · subst e
     rw [if_pos rfl,if_pos (by omega)]
   · have m1:=hm i (by omega) hic
     rw [if_neg (by omega)];exact m1
theorem Rw.at {w:World} {a:Option Addr} {n c j m:Nat} {k:ByteArray} (h:Rw w (.slice a n c) m k) (hj:j < c):∃ g x,a=some ⟨g,0,none⟩∧w.cell? ⟨g,j,none⟩=some x∧(∀ o,w.frozen? ⟨g,o,none⟩=false)∧(j < m→x=.string k)∧∃ cur,w.heap[g]?=some (.cells cur 9 (0,0)):=by
 obtain ⟨a,n,c,hv,hc,h0 | ⟨g,cur,rfl,hg,hs,hm⟩⟩:=h
 · obtain ⟨rfl,rfl,rfl⟩:=Value.slice.inj hv
   omega
 · obtain ⟨rfl,rfl,rfl⟩:=Value.slice.inj hv
   have hc2:=cell_of_row w g j cur 9 (0,0) hg
   rw [Array.getElem?_eq_getElem (by omega)] at hc2
   refine ⟨g,_,rfl,hc2,fun o=>frozen_of_row w g o _ _ hg,fun h=>?_,cur,hg⟩
   have m1:=hm j h hj
   rw [Array.getElem?_eq_getElem (by omega)] at m1
   exact Option.some.inj m1
/-- All but rows of kinds stand. -/
def KN5 (w w':World):Prop:=w.heap.size≤w'.heap.size∧∀ k:Nat,k < w.heap.size→(∀ (cs:Array Value) (fz:Nat × Nat),w.heap[k]? ≠ some (Obj.cells cs 9 fz))→w'.heap[k]?=w.heap[k]?
/-- What the marking holds: the lists before the i-th are full, of the i-th m places. -/
def Mk (ls:List Value) (i m:Nat) (w0 w:World):Prop :=
 KN5 w0 w∧∀ (t:Nat) v,ls[t]?=some v→Rw w v (if t < i then 9223372036854775808 else if t=i then m else 0) (mkT t)
theorem Mk.below {ls:List Value} {i m:Nat} {w0 w w':World} (h:Mk ls i m w0 w) (hb:Below w.heap.size w w'):Mk ls i m w0 w' :=
 ⟨⟨Nat.le_trans h.1.1 hb.size,fun k hk hn=>(hb.block k (Nat.lt_of_lt_of_le hk h.1.1)).trans (h.1.2 k hk hn)⟩,fun t v ht=>(h.2 t v ht).kept fun g _ hg=>hb.block g hg⟩
theorem Mk.step {w0 w:World} {B:Nat} {ls ws:List Value} {ds:List (List ByteArray)} {i j g n c:Nat} (hI:Its w0 B ls ws ds) (h:Mk ls i j w0 w) (hi:ls[i]?=some (.slice (some ⟨g,0,none⟩) n c)) (hj:j < c) (hb:∃ cur,w0.heap[g]?=some (Obj.cells cur 9 (0,0))) :
 Mk ls i (j+1) w0 (w.setCell ⟨g,j,none⟩ (.string (mkT i))):=by
 have ho:∀ k,k ≠ g→(w.setCell ⟨g,j,none⟩ (.string (mkT i))).heap[k]?=w.heap[k]?:=fun k hk =>
  heap_setCell_other w ⟨g,j,none⟩ k _ hk
 refine ⟨⟨by simpa using h.1.1,fun k hk hn=>?_⟩,fun t v ht=>?_⟩
 · rw [ho k (fun e=>by obtain ⟨cur,hc⟩:=hb;subst e;exact hn _ _ hc)]
   exact h.1.2 k hk hn
 · have hr:=h.2 t v ht
   by_cases hti:t=i
   · subst hti
     obtain rfl:=Option.some.inj (ht.symm.trans hi)
     rw [if_neg (by omega),if_pos rfl] at hr ⊢
     exact hr.set hj
   · have e:(if t < i then 9223372036854775808 else if t=i then j+1 else 0)=(if t < i then 9223372036854775808 else if t=i then j else 0):=by simp [hti]
     rw [e]
     refine hr.kept fun g' hg' _=>ho g' (fun e=>?_)
     subst e
     rcases Nat.lt_or_ge t i with hlt | hge
     · rcases hI.apart t i v _ hlt ht hi with h | h
       · rw [h] at hg';cases hg'
       · exact h hg'
     · rcases hI.apart i t _ v (by omega) hi ht with h | h
       · cases h
       · exact h hg'.symm
theorem Mk.next {w0 w:World} {ls:List Value} {i c:Nat} {a:Option Addr} {n:Nat} (h:Mk ls i c w0 w) (hi:ls[i]?=some (.slice a n c)):Mk ls (i+1) 0 w0 w:=by
 refine ⟨h.1,fun t v ht=>?_⟩
 have hr:=h.2 t v ht
 by_cases hti:t=i
 · subst hti
   obtain rfl:=Option.some.inj (ht.symm.trans hi)
   rw [if_neg (by omega),if_pos rfl] at hr
   rw [if_pos (by omega)]
   obtain ⟨a,n,c,hv,hc,h0 | ⟨g,cur,ha,hg,hs,hm⟩⟩:=hr
   · exact ⟨a,n,c,hv,hc,.inl h0⟩
   · obtain ⟨rfl,rfl,rfl⟩:=Value.slice.inj hv
     exact ⟨_,_,_,rfl,hc,.inr ⟨g,cur,ha,hg,hs,fun j _ hj=>hm j hj hj⟩⟩
 · have e:(if t < i+1 then 9223372036854775808 else if t=i+1 then 0 else 0)=(if t < i then 9223372036854775808 else if t=i then c else 0):=by
    simp only [hti,if_false]
    by_cases h:t < i
    · rw [if_pos h,if_pos (by omega)]
    · rw [if_neg h,if_neg (by omega)];simp
   rw [e];exact hr
theorem apart_any (w:World) (B gb:Nat) (ls ws:List Value) (ds:List (List ByteArray)) (h:BkI w B gb ls ws ds) (hl:ds.length≤4001) (hBw:B≤w.heap.size) :
 Calls Tryz.prog 12 #[.pointer (some ⟨gb,0,none⟩),.func (.func 13) #[] #[]] w fun e w'=>e=.returned (.bool true)∧Below B w w':=by
 go_enter Tryz.func12,Tryz.ntmps12
 go_wp2_with fail
 with_reducible refine (stays_any w B gb ls ws ds h hl).mono ?_
 rintro e w1 ⟨rfl,hk1,hb1⟩
 have hBw1:B≤w1.heap.size:=by have:=hb1.size;omega
 obtain ⟨lv,wv,held,hg,hB,hlv,hwv,hlw,h0,h1,hI⟩:=h.oth hk1
 have e1:=hI.l1
 obtain ⟨al,cl,rfl,rl⟩:=hlv.rv (by omega)
 have hN:ls.length≤4001:=by omega
 have HI:=Lib.hid hI
 have HG:=Lib.hid hg
 have hglt:gb < w1.heap.size:=(Array.getElem?_eq_some_iff.1 hg).1
 have hls:∀ k,(Value.slice al ls.length cl).ownBlock=some k→k < w1.heap.size∧∃ cur,w1.heap[k]?=some (Obj.cells cur 24 (0,0)):=fun k hk=>(hlv.lt k hk).2
 generalize hNN:ls.length=N at *
 have HNN:=Lib.hid hNN
 have HLS:=Lib.hid hls
 clear hwv hlw h0 h1 hI e1 hg hls hlv hNN h hk1
 go_upto_block 0 with (fail)
 go_cut [] (fun wx=>Mk ls N 0 w1 wx∧Below B w wx)
 case first =>
  go_wp2_with fail
  go_loopw [5,6,7] (fun x _ _ wx=>∃ i:Nat,i≤N∧x=.int .i64 i∧Mk ls i 0 w1 wx∧Below B w wx) (fun x _ _ _=>N - (intOf x).toNat)
  case atStart =>
   refine ⟨0,by omega,rfl,⟨⟨Nat.le_refl _,fun k _ _=>rfl⟩,fun t v ht=>?_⟩,hb1⟩
   have htl:t < ls.length:=(List.getElem?_eq_some_iff.1 ht).1
   obtain ⟨_,hv,_⟩:=HI.out.own t v ws[t]! ds[t]! ht (by have:=HI.out.l1;have:=HI.out.l2;rw [List.getElem?_eq_getElem (by omega)];simp [show t < ws.length by omega]) (by have:=HI.out.l1;rw [List.getElem?_eq_getElem (by omega)];simp [show t < ds.length by omega])
   simpa using Rw.of_owns hv (mkT t)
  case round =>
   obtain ⟨i,hi,rfl,hM,hb⟩:=hrel
   have hgw:=(hM.1.2 gb hglt (by rw [HG.out];simp)).trans HG.out
   have c0:=cell_of_row wr gb 0 _ _ _ hgw
   have f0:=frozen_of_row wr gb 0 _ _ hgw
   simp at c0
   have HM:=Lib.hid hM
   have HB:=Lib.hid hb
   have zr:w1.heap.size≤wr.heap.size:=hM.1.1
   clear hgw hM hb
   by_cases hlt:i < N
   · obtain ⟨b1,o1,y1,rfl,hy1,hcy1⟩:=rl.at hlt
     obtain ⟨hb1lt,cur1,hcur1⟩:=HLS.out b1 rfl
     have hc1:wr.cell? ⟨b1,o1+i,none⟩=_:=(World.cell?_of_block (HM.out.1.2 b1 hb1lt (by rw [hcur1];simp))).trans hcy1
     obtain ⟨av,nv,cv,rfl,hcv,-⟩:=HM.out.2 i y1 hy1
     have hs:=fun wx=>slice_to wx av nv cv cv (Nat.le_refl _)
     have hlt':(i:Int) < (N:Int):=by omega
     have HCV:=Lib.hid hcv
     have HY:=Lib.hid hy1
     clear hcy1 hcur1 rl hcv hy1
     go_wp2
     go_quiet (fail)
     go_wp2
     clear hs hc1 c0 f0 hlt'
     go_loopw [7] (fun x wx=>∃ j:Nat,j≤cv∧x=.int .i64 j∧Mk ls i j w1 wx∧Below B w wx) (fun x _=>cv - (intOf x).toNat)
     case atStart=>exact ⟨0,by omega,rfl,HM.out.below (below_drewN (Below.refl _ _) nq),below_drewN HB.out nq⟩
     case round =>
      obtain ⟨j,hj,rfl,hM2,hb2⟩:=hrel
      have HM2:=Lib.hid hM2
      have HB2:=Lib.hid hb2
      have z2:w1.heap.size≤wr.heap.size:=hM2.1.1
      clear hM2 hb2
      by_cases hjc:j < cv
      · have hr:=HM2.out.2 i _ HY.out
        rw [if_neg (by omega),if_pos rfl] at hr
        have hI:=HI.out.own i (.slice av nv cv) ws[i]! ds[i]! HY.out (by have:=HI.out.l1;have:=HI.out.l2;have:=HNN.out;simp [show i < ws.length by omega]) (by have:=HI.out.l1;have:=HNN.out;simp [show i < ds.length by omega])
        obtain ⟨g,x,rfl,-⟩:=hr.at hjc
        have hg1:(∃ cur,w1.heap[g]?=some (Obj.cells cur 9 (0,0)))∧B≤g:=by
         rcases hI.2.1.2 with ⟨hv,_⟩ | ⟨g',cap,cur,hv,hb,hg,_⟩
         · cases hv
         · obtain ⟨e,-,-⟩:=Value.slice.inj hv
           obtain rfl:g=g':=by simpa using e
           exact ⟨⟨cur,hg⟩,hb⟩
        have HG1:=Lib.hid hg1
        have hjc':(j:Int) < (cv:Int):=by omega
        clear hr hI hg1
        go_wp2_with fail
        with_reducible refine (markT_any _ i j (by omega)).mono ?_
        rintro e w' ⟨rfl,hbm⟩
        have hM3:=HM2.out.below hbm
        have HM3:=Lib.hid hM3
        have HB3:=Lib.hid (HB2.out.trans (hbm.mono (by omega)))
        have hr:=hM3.2 i _ HY.out
        rw [if_neg (by omega),if_pos rfl] at hr
        obtain ⟨g',x,hgg,hcx,hfx,-⟩:=hr.at hjc
        obtain rfl:g=g':=by simpa using hgg
        have hst:=HM3.out.step HI.out HY.out hjc HG1.out.1
        have hbs:=HB3.out.setCell (p:=⟨g,j,none⟩) HG1.out.2 (.string (mkT i))
        have HST:=Lib.hid hst
        have HBS:=Lib.hid hbs
        have fx0:=hfx j
        have hw:IntKind.i64.wrap ((j:Int)+1)=(j:Int)+1:=by have:=HCV.out;simp [IntKind.wrap,IntKind.bits,IntKind.signed];omega
        have hj63:(j:Int)+1 < 9223372036854775808:=by have:=HCV.out;omega
        clear hM3 hr hgg hst hbs hfx hbm
        go_wp2
        go_roundw
        case rel=>exact ⟨j+1,by omega,by go_num,HST.out,HBS.out⟩
        case measure=>simp [intOf];omega
      · obtain rfl:j=cv:=by omega
        have HNX:=Lib.hid (HM2.out.next HY.out)
        go_wp2
        go_roundw
        case rel=>exact ⟨i+1,by omega,by go_num,HNX.out,HB2.out⟩
        case measure=>simp [intOf];omega
   · obtain rfl:i=N:=by omega
     clear rl
     go_wp2
     go_meet
     exact ⟨HM.out,HB.out⟩
 case rest =>
  obtain ⟨hM,hb⟩:=hcut
  have HM:=Lib.hid hM
  have HB:=Lib.hid hb
  have zc:w1.heap.size≤wc.heap.size:=hM.1.1
  have HGW:=Lib.hid ((hM.1.2 gb hglt (by rw [HG.out];simp)).trans HG.out)
  clear hM hb
  have c0:=cell_of_row wc gb 0 _ _ _ HGW.out
  simp at c0
  go_wp2_with fail
  go_loopw [8,9,10] (fun x _ _ wx=>∃ i:Nat,i≤N∧x=.int .i64 i∧Below wc.heap.size wc wx) (fun x _ _ _=>N - (intOf x).toNat)
  case atStart=>exact ⟨0,by omega,rfl,Below.refl _ _⟩
  case round =>
   obtain ⟨i,hi,rfl,hb⟩:=hrel
   have HX:=Lib.hid hb
   have zw:=hb.size
   have HGR:=Lib.hid ((hb.block gb (by omega)).trans HGW.out)
   have HBR:=Lib.hid (HB.out.trans (hb.mono (by omega)))
   have c0:=cell_of_row wr gb 0 _ _ _ HGR.out
   have c1:=cell_of_row wr gb 1 _ _ _ HGR.out
   have c2:=cell_of_row wr gb 2 _ _ _ HGR.out
   have f0:=fun o=>frozen_of_row wr gb o _ _ HGR.out
   simp at c0 c1 c2
   clear hb
   by_cases hlt:i < N
   · obtain ⟨b1,o1,y1,rfl,hy1,hcy1⟩:=rl.at hlt
     obtain ⟨hb1lt,cur1,hcur1⟩:=HLS.out b1 rfl
     have hc1:wr.cell? ⟨b1,o1+i,none⟩=_:=(World.cell?_of_block ((HX.out.block b1 (by omega)).trans (HM.out.1.2 b1 hb1lt (by rw [hcur1];simp)))).trans hcy1
     have hR:=HM.out.2 i y1 hy1
     rw [if_pos hlt] at hR
     have hR':=hR
     obtain ⟨av,nv,cv,rfl,hcv,-⟩:=hR'
     have hs:=fun wx=>slice_to wx av nv cv cv (Nat.le_refl _)
     have hlt':(i:Int) < (N:Int):=by omega
     have HCV:=Lib.hid hcv
     have HR:=Lib.hid hR
     clear hcy1 hcur1 rl hcv hy1 hR
     go_wp2
     go_quiet (fail)
     go_wp2
     clear hs hc1 hlt' c0 c1 c2 f0
     go_loopw [10] (fun x wx=>∃ j:Nat,j≤cv∧x=.int .i64 j∧Below wc.heap.size wc wx) (fun x _=>cv - (intOf x).toNat)
     case atStart=>exact ⟨0,by omega,rfl,below_drewN HX.out nq⟩
     case round =>
      obtain ⟨j,hj,rfl,hb2⟩:=hrel
      have HX2:=Lib.hid hb2
      have zw2:=hb2.size
      have hRW:=HR.out.kept (fun g _ hg=>hb2.block g hg)
      clear hb2
      by_cases hjc:j < cv
      · obtain ⟨g,x,rfl,hcx,-,hxx,-⟩:=hRW.at hjc
        obtain rfl:=hxx (by have:=HCV.out;omega)
        have hw:IntKind.i64.wrap ((j:Int)+1)=(j:Int)+1:=by have:=HCV.out;simp [IntKind.wrap,IntKind.bits,IntKind.signed];omega
        have hjc':(j:Int) < (cv:Int):=by omega
        clear hRW
        go_wp2
        go_region_held3 (fun w=>w.cell? ⟨g,j,none⟩=some (.string (mkT i))) (first | exact hcx | exact keepg1 hbm hcx) (first | (go_at_call 13;refine (markT_any wr.drew i j (by omega)).mono ?_;rintro e w' ⟨rfl,hbm⟩))
        have HX3:=Lib.hid (HX2.out.trans ((show Below wr.heap.size wr w' from (Below.refl _ _).drew.trans hbm).mono (by omega)))
        have hj63:(j:Int)+1 < 9223372036854775808:=by have:=HCV.out;omega
        clear hbm
        go_wp2
        go_roundw
        case rel=>exact ⟨j+1,by omega,by go_num,HX3.out⟩
        case measure=>simp [intOf];omega
      · obtain rfl:j=cv:=by omega
        clear hRW
        go_wp2
        go_roundw
        case rel=>exact ⟨i+1,by omega,by go_num,HX2.out⟩
        case measure=>simp [intOf];omega
   · clear rl
     have hb4:=((HBR.out.setCell (p:=⟨gb,0,none⟩) hB (.slice none 0 0)).setCell (p:=⟨gb,1,none⟩) hB (.slice none 0 0)).setCell (p:=⟨gb,2,none⟩) hB (.int .i64 0)
     have HB4:=Lib.hid hb4
     clear hb4
     go_wp2
     go_ret
     exact ⟨rfl,HB4.out⟩

end Go.Proofs.YtcnckjlmldnblaaGreatDoor
