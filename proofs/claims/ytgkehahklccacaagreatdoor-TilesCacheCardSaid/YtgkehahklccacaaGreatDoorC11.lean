import Derived.Test.YtgkehahklccacaaGreatDoorC10
import Derived.Deep.RegionWith
namespace Go.Proofs.YtgkehahklccacaaGreatDoor
open Go Go.RowKit
open Go.Lib (hid)
set_option maxRecDepth 100000
set_option maxHeartbeats 1000000
set_option linter.unusedVariables false
set_option linter.unusedSimpArgs false
section
open Go.Maps Go.WideMaps
theorem relabel {w w':World} {ρ:Nat→Nat} {e s r n n':Nat} {v v':Value} {xs xs':List Value} (h:OwnL w ρ e s r v n xs) (dom:∀ k,ρ k ≠ 0→k < w.heap.size) (ho:w'.ownsRow 0 e s v' n' xs') (hat:v'.ownBlock=v.ownBlock∨v'.ownBlock=some w.heap.size) (hr:r ≠ 0) (hw:w.heap.size≤w'.heap.size) :
 ∃ ρ',Ext w.heap.size ρ ρ'∧(∀ k,ρ' k ≠ 0→k < w'.heap.size)∧OwnL w' ρ' e s r v' n' xs':=by
 have h0:ρ w.heap.size=0:=by
  rcases Nat.eq_zero_or_pos (ρ w.heap.size) with h | h
  · exact h
  · have:=dom w.heap.size (by omega);omega
 rcases hat with hat | hat
 · exact ⟨ρ,Ext.refl _ _,fun k hk=>Nat.lt_of_lt_of_le (dom k hk) hw,ho,fun k hk=>h.2 k (by rw [← hat];exact hk)⟩
 · refine ⟨put1 ρ w.heap.size r,Ext.put r h0 (Nat.le_refl _),fun k hk=>?_,ho,fun k hk=>?_⟩
   · unfold put1 at hk
     split at hk
     · rename_i e
       subst e
       exact (ho.lt _ hat).2
     · exact Nat.lt_of_lt_of_le (dom k hk) hw
   · rw [hat] at hk;cases hk;simp [put1]
theorem DAt.names1 {w w':World} {L:Lay} {gd:Nat} {d:Dm} (h:DAt w L gd d) (hg:w.grownBy w' (some L.nb)) {m:List (Nm × Nat)} (hN:NAt w' L.ρ 2 L.fa L.nb m):DAt w' L gd { d with names:=m }∧Upd L.ρ L.ρ w w':=by
 have ho:Only L.ρ (·=2) w w':=Only.of_grown hg (fun k e=>by cases e;exact h.nm.lt.2)
 have hk:∀ k,L.ρ k ≠ 0→L.ρ k ≠ 2→w'.heap[k]?=w.heap[k]?:=fun k h0 h1=>ho.block k (h.dom k h0) h1
 refine ⟨⟨(hk gd (by rw [h.lg];omega) (by rw [h.lg];omega)).trans h.g,h.lg,fun k e=>Nat.lt_of_lt_of_le (h.dom k e) ho.size,hN,h.sf.keep (fun k e=>hk k (by omega) (by omega)) (fun _ e=>e) (fun _ _ _=>rfl),h.cl.keep (fun k e=>hk k (by omega) (by omega)) (fun _ e=>e),
  h.ch.keep (fun k e=>hk k (by omega) (by omega)) (fun _ e=>e),h.pl.keep (fun k e=>hk k (by omega) (by omega)) (fun _ e=>e),fun i f hf=>?_⟩,Upd.of_only ho (by omega) (Ext.refl _ _)⟩
 obtain ⟨vn,vs,vl,hx⟩:=h.fs i f hf
 exact ⟨vn,vs,vl,hx.keep (fun k e=>hk k (by omega) (by omega)) (fun _ _=>rfl)⟩
theorem DAt.ch1 {w w4:World} {L:Lay} {gd:Nat} {d:Dm} (h:DAt w L gd d) (hg:w.grownBy w4 L.ch.ownBlock) {v':Value} {c:Chg} {n':Nat} (hn:n'=d.changes.length+1) (ho:w4.ownsRow 0 112 3 v' n' (d.changes.flatMap (chV L.fa)++chV L.fa c)) (hat:v'.ownBlock=L.ch.ownBlock∨v'.ownBlock=some w.heap.size) :
 ∃ L',DAt (w4.setCell ⟨gd,8,none⟩ v') L' gd { d with changes:=d.changes++[c] }∧Upd L.ρ L'.ρ w (w4.setCell ⟨gd,8,none⟩ v'):=by
 subst hn
 have o1:Only L.ρ (fun r=>r=5∨r=1) w w4:=Only.of_grown hg (fun k e=>.inl (h.ch.2 k e))
 have g4:w4.heap[gd]?=some (boxDisk L d):=(hg.block gd h.lt (fun e=>by have:=h.ch.2 gd e.symm;rw [h.lg] at this;omega)).trans h.g
 have o2:Only L.ρ (fun r=>r=5∨r=1) w (w4.setCell ⟨gd,8,none⟩ v'):=o1.trans (Only.setCell w4 gd 8 v' (.inr h.lg))
 have ho':(w4.setCell ⟨gd,8,none⟩ v').ownsRow 0 112 3 v' (d.changes.length+1) (d.changes.flatMap (chV L.fa)++chV L.fa c):=ownsRow_setCell_other ho (a:=⟨gd,8,none⟩) (fun e=>by
  rcases hat with hat | hat
  · have:=h.ch.2 gd (by rw [← hat];exact e);rw [h.lg] at this;omega
  · rw [hat] at e;have e1:w.heap.size=gd:=Option.some.inj e;have:=h.lt;omega) v'
 obtain ⟨ρ',he,hd,hO⟩:=relabel h.ch h.dom ho' hat (by omega) o2.size
 have hk:∀ k,L.ρ k ≠ 0→L.ρ k ≠ 5→L.ρ k ≠ 1→(w4.setCell ⟨gd,8,none⟩ v').heap[k]?=w.heap[k]?:=fun k h0 h1 h2=>o2.block k (h.dom k h0) (by omega)
 have hs:∀ r,r ≠ 0→∀ k,L.ρ k=r→ρ' k=r:=fun r hr k e=>(he.same k (by omega)).trans e
 refine ⟨{ L with ρ:=ρ',ch:=v' },⟨heap_setCell_same w4 gd 8 _ _ v' g4,hs 1 (by omega) gd h.lg,hd,h.nm.keep (fun k e=>hk k (by omega) (by omega) (by omega)) (hs 2 (by omega)) (fun _ _ _=>rfl),h.sf.keep (fun k e=>hk k (by omega) (by omega) (by omega)) (hs 3 (by omega)) (fun _ _ _=>rfl),h.cl.keep (fun k e=>hk k (by omega) (by omega) (by omega)) (hs 4 (by omega)),
  ?_,h.pl.keep (fun k e=>hk k (by omega) (by omega) (by omega)) (hs 6 (by omega)),fun i f hf=>?_⟩,Upd.of_only o2 (by omega) he⟩
 · show OwnL _ ρ' 112 3 5 v' (d.changes++[c]).length ((d.changes++[c]).flatMap (chV L.fa))
   simpa using hO
 · obtain ⟨vn,vs,vl,hx⟩:=h.fs i f hf
   exact ⟨vn,vs,vl,hx.keep (fun k e=>hk k (by omega) (by omega) (by omega)) (fun k e=>he.same k e)⟩
theorem keepm {w w':World} {nb:Nat} (hg:w.grownBy w' (some nb)) {b o:Nat} (hne:b ≠ nb) {v:Value} (h:w.cell? ⟨b,o,none⟩=some v):w'.cell? ⟨b,o,none⟩=some v :=
 (World.cell?_of_block (hg.block b (World.block_lt_of_cell? w _ h) (fun e=>hne (Option.some.inj e)))).trans h
theorem sl44:Sl Tryz.prog 48 112 (.agg #[.string ByteArray.empty,.string ByteArray.empty,.pointer none]) 3 40:=⟨Tryz.underlying48,by kernel_rfl,rfl,by decide⟩
theorem new_ch (w:World) (f t:ByteArray) (m:Value) {k:Nat} (hk:w.heap.size=k) (j:Nat) (u:Value) (h:[.string f,.string t,m][j]?=some u):(w.alloc (boxC f t m)).cell? ((⟨k,0,none⟩:Addr).add j)=some u:=by
 subst hk
 rw [Addr.add_lit,cell_of_row _ _ _ _ _ _ (heap_alloc_new w _),Nat.zero_add]
 simpa using h
theorem one_chV (fa:Nat→Nat) (c:Chg):∀ u ∈ chV fa c,u.oneCell'=true:=by
 intro u hu
 unfold chV at hu
 simp only [List.mem_cons,List.not_mem_nil,or_false] at hu
 rcases hu with rfl | rfl | rfl
 · rfl
 · rfl
 · cases c.made <;> rfl
structure ChOk (d:Dm) (c:Chg):Prop where
 nd:(keysOf d.names).Nodup
 src:c.src.length≤maxLen
 dst:c.dst.length≤maxLen
 few:d.names.length < 1000000
 many:d.changes.length < 1099511627776
 old:c.made=none→lk d.names c.src ≠ none
 new:c.made ≠ none→c.dst ≠ []
theorem change_make (w:World) (L:Lay) (gd:Nat) (d:Dm) (h:DAt w L gd d) (src dst:Nm) (i:Nat) (hc:ChOk d ⟨src,dst,some i⟩) :
 Calls Tryz.prog 96 #[.pointer (some ⟨gd,0,none⟩),.agg #[.string (bs src),.string (bs dst),.pointer (some ⟨L.fa i,0,none⟩)]] w fun e w'=>e=.returned (.tuple #[])∧∃ L',DAt w' L' gd (d.change ⟨src,dst,some i⟩)∧Upd L.ρ L'.ρ w w':=by
 obtain ⟨f,hf⟩:∃ f,f=bs src:=⟨_,rfl⟩
 obtain ⟨t,ht⟩:∃ t,t=bs dst:=⟨_,rfl⟩
 obtain ⟨m,hm⟩:∃ m,m=Value.pointer (some ⟨L.fa i,0,none⟩):=⟨_,rfl⟩
 rw [← hf,← ht]
 obtain ⟨w1,hw1⟩:∃ w1,w1=w.alloc (boxC f t (.pointer (some ⟨L.fa i,0,none⟩))):=⟨_,rfl⟩
 have hb1:Below w.heap.size w w1:=by rw [hw1];exact bel1 _ _
 have g1:w1.heap[w.heap.size]?=some (boxC f t (.pointer (some ⟨L.fa i,0,none⟩))):=by rw [hw1];exact heap_alloc_new w _
 have hd1:=h.below hb1
 have HD1:=hid hd1
 have HU1:=hid (Upd.of_below (ρ:=L.ρ) hb1)
 obtain ⟨-,-,-,-,-,-,c6,-⟩:=hd1.cells
 obtain ⟨b0,b1,b2⟩:=box3 g1
 have G1:=hid g1
 have HC:=hid hc
 have HT:=hid (And.intro hf ht)
 have hnw:w.heap.size ≠ L.nb:=by have:=h.nm.lt.1;omega
 have hgn:gd ≠ L.nb:=fun e=>by have h1:=h.nm.lt.2;have h2:=h.lg;rw [← e,h2] at h1;omega
 have h0w:L.ρ w.heap.size=0:=by
  rcases Nat.eq_zero_or_pos (L.ρ w.heap.size) with h9 | h9
  · exact h9
  · have:=h.dom w.heap.size (by omega);omega
 clear h hb1 g1 hd1 hc hf ht hm
 go_enter Tryz.func96,Tryz.ntmps96
 go_upto_region 1 with (fail)
 rw [← hw1]
 clear hw1
 go_wp2_with fail
 go_region_held3 (fun w'=>w'.cell? ⟨gd,6,none⟩=some (.map (some L.nb))∧w'.cell? ⟨w.heap.size,0,none⟩=some (.string f)∧w'.cell? ⟨w.heap.size,1,none⟩=some (.string t)∧w'.cell? ⟨w.heap.size,2,none⟩=some (.pointer (some ⟨L.fa i,0,none⟩))) (first | exact ⟨c6,b0,b1,b2⟩ | exact ⟨keepm hgr2 hgn c6,keepm hgr2 hnw b0,keepm hgr2 hnw b1,keepm hgr2 hnw b2⟩) (first | (go_at_call 52;rw [HT.out.1,HT.out.2];refine (do_any w1.drew L.ρ 2 L.fa L.nb d.names ⟨src,dst,some i⟩ HD1.out.nm HC.out.nd HC.out.src HC.out.dst HC.out.few HC.out.old HC.out.new).mono ?_;rintro e w2 ⟨rfl,hm2,hgr2⟩))
 have hdu:=(HD1.out.below (show Below w1.heap.size w1 w1.drew from (Below.refl _ _).drew)).names1 hgr2 hm2
 have HU2:=hid ((HU1.out.trans (Upd.of_below (show Below w1.heap.size w1 w1.drew from (Below.refl _ _).drew))).trans hdu.2)
 have HD2:=hid hdu.1
 have G2:=hid ((hgr2.block w.heap.size (Array.getElem?_eq_some_iff.1 G1.out).1 (fun e=>hnw (Option.some.inj e))).trans G1.out)
 have z2:w.heap.size < w2.heap.size:=(Array.getElem?_eq_some_iff.1 G2.out).1
 have hlt2:gd < w2.heap.size:=hdu.1.lt
 obtain ⟨-,-,-,-,-,-,-,-,e8,-⟩:=hdu.1.cells
 obtain ⟨b0',b1',b2'⟩:=box3 G2.out
 clear hm2 hgr2 hdu c6 b0 b1 b2
 go_wp2_with fail
 have hb3:Below w2.heap.size w2 (w2.drew.alloc (boxC f t (.pointer (some ⟨L.fa i,0,none⟩)))):=(show Below w2.heap.size w2 w2.drew from (Below.refl _ _).drew).alloc (Nat.le_refl _) _
 have HD3:=hid (HD2.out.below hb3)
 have HU3:=hid (HU2.out.trans (Upd.of_below hb3))
 have HN3:=hid (fun j u=>new_ch w2.drew f t (.pointer (some ⟨L.fa i,0,none⟩)) (k:=w2.heap.size) rfl j u)
 have HQ1:=hid (show (d.changes.length+1) * 40≤140737488355328 by have:=HC.out.many;omega)
 have HQ2:=hid (show d.changes.length+1≤maxLen by have:=HC.out.many;simp [maxLen];omega)
 have h1v:∀ u ∈ [Value.string f,.string t,(.pointer (some ⟨L.fa i,0,none⟩))],u.oneCell'=true:=by
  rw [HT.out.1,HT.out.2];exact one_chV L.fa ⟨src,dst,some i⟩
 have H1V:=hid h1v
 clear hb3 h1v
 go_region_law (first
  | (refine S_appendN rfl (.tmp 67) (.tmp 69) 48 (by rfl) sl44 0 L.ch d.changes.length (d.changes.flatMap (chV L.fa)) (by rfl) HD3.out.ch.1 ⟨w2.heap.size,0,none⟩ 1 1 [.string f,.string t,(.pointer (some ⟨L.fa i,0,none⟩))] (by rfl) (by rfl) HN3.out H1V.out HQ1.out HQ2.out (Nat.zero_le _) (fun a4 c4 w4 ho4 hg4 hat4=>?_)
     have hgr4:=HD3.out.ch1 hg4 (c:=⟨src,dst,some i⟩) rfl (by rw [HT.out.1,HT.out.2] at ho4;exact ho4) hat4
     have k8g:=HD3.out.g
     have k4:w4.heap[gd]?=some (boxDisk L { d with names:=Chg.act ⟨src,dst,some i⟩ d.names }):=(hg4.block gd HD3.out.lt (fun e=>by have h9:=HD3.out.ch.2 gd e.symm;rw [HD3.out.lg] at h9;omega)).trans HD3.out.g
     have e8':=cell_of_row _ _ 8 _ _ _ k4
     have f8':=frozen_of_row w4 gd 8 _ _ k4
     simp only [List.getElem?_toArray,List.getElem?_cons_zero,List.getElem?_cons_succ] at e8'
     clear k8g k4))
 all_goals
  have HE4:=hid hgr4
  clear hgr4 ho4 hg4 hat4 e8 b0' b1' b2'
  go_wp2_with fail
  go_end0
  obtain ⟨L',h1,h2⟩:=HE4.out
  exact ⟨rfl,L',h1,HU3.out.trans h2⟩
end
section
open Go.Maps Go.WideMaps
end
section
open Go.Maps Go.WideMaps
end
section
open Go.Maps Go.WideMaps
end
section
open Go.Maps Go.WideMaps
end
section
open Go.Maps Go.WideMaps
structure Refs (d:Dm):Prop where
 nm:∀ s i,lk d.names s=some i→i < d.fs.length
 sf:∀ s i,lk d.safe s=some i→i < d.fs.length
 ch:∀ c ∈ d.changes,∀ i,c.made=some i→i < d.fs.length
theorem flatMap_congr' {α β:Type} {l:List α} {f g:α→List β} (h:∀ x ∈ l,f x=g x):l.flatMap f=l.flatMap g:=by
 induction l with
 | nil=>rfl
 | cons x r ih=>rw [List.flatMap_cons,List.flatMap_cons,h x (List.mem_cons_self),ih (fun y hy=>h y (List.mem_cons_of_mem _ hy))]
abbrev boxD (gd:Nat):Obj:=.cells #[.pointer (some ⟨gd,0,none⟩)] 25
abbrev boxN (s:ByteArray):Obj:=.cells #[.string s] 9
theorem cell0 {w:World} {b:Nat} {v:Value} {t:TypeId} (h:w.heap[b]?=some (.cells #[v] t (0,0))):w.cell? ⟨b,0,none⟩=some v:=by
 rw [cell_of_row _ _ _ _ _ _ h];rfl
def Cap (w:World) (ρ:Nat→Nat) (b:Nat) (o:Obj):Prop:=w.heap[b]?=some o∧ρ b=0
theorem Cap.upd {w w':World} {ρ ρ':Nat→Nat} {b:Nat} {o:Obj} (h:Cap w ρ b o) (hu:Upd ρ ρ' w w'):Cap w' ρ' b o:=by
 have hlt:=(Array.getElem?_eq_some_iff.1 h.1).1
 exact ⟨(hu.block b hlt h.2).trans h.1,hu.ext.old b hlt h.2⟩
theorem Cap.below {w w':World} {ρ:Nat→Nat} {b:Nat} {o:Obj} (h:Cap w ρ b o) (hb:Below w.heap.size w w'):Cap w' ρ b o:=h.upd (Upd.of_below hb)
theorem DAt.newfile {w w1:World} {L:Lay} {gd:Nat} {d:Dm} (h:DAt w L gd d) (hr:Refs d) (ho:Only L.ρ (·=1) w w1) (hg:w1.heap[gd]?=some (.cells #[.int .i64 (d.acts:Int),.int .i64 d.space,.int .i64 d.used,.int .i64 ((d.fs.length:Int)+1),.int .i64 (d.epoch:Int),.bool d.power,.map (some L.nb),.map (some L.sb),L.ch,L.pl,.map (some L.cb)] 52)) (z:w1.heap.size=w.heap.size) :
 ∃ L',DAt (w1.alloc (boxFile d.fs.length (.slice none 0 0) (.slice none 0 0) (.slice none 0 0))) L' gd { d with fs:=d.fs++[⟨[],[],[]⟩] }∧Upd L.ρ L'.ρ w (w1.alloc (boxFile d.fs.length (.slice none 0 0) (.slice none 0 0) (.slice none 0 0)))∧L'.fa d.fs.length=w1.heap.size:=by
 have h0:L.ρ w1.heap.size=0:=by
  rcases Nat.eq_zero_or_pos (L.ρ w1.heap.size) with h9 | h9
  · exact h9
  · have:=h.dom w1.heap.size (by omega);omega
 have hb:Below w1.heap.size w1 (w1.alloc (boxFile d.fs.length (.slice none 0 0) (.slice none 0 0) (.slice none 0 0))):=bel1 _ _
 have o2:Only L.ρ (·=1) w (w1.alloc (boxFile d.fs.length (.slice none 0 0) (.slice none 0 0) (.slice none 0 0))):=ho.trans (Only.of_below hb)
 have he:Ext w.heap.size L.ρ (put1 L.ρ w1.heap.size (7+4 * d.fs.length)):=Ext.put _ h0 (by omega)
 have hk:∀ k,L.ρ k ≠ 0→L.ρ k ≠ 1→(w1.alloc (boxFile d.fs.length (.slice none 0 0) (.slice none 0 0) (.slice none 0 0))).heap[k]?=w.heap[k]?:=fun k h0 h1=>o2.block k (h.dom k h0) h1
 have hs:∀ r,r ≠ 0→∀ k,L.ρ k=r→put1 L.ρ w1.heap.size (7+4 * d.fs.length) k=r:=fun r hr k e=>(he.same k (by omega)).trans e
 have hfa:∀ i,i < d.fs.length→(fun j=>if j=d.fs.length then w1.heap.size else L.fa j) i=L.fa i:=fun i hi=>by show (if i=d.fs.length then _ else _)=_;rw [if_neg (by omega)]
 refine ⟨{ L with ρ:=put1 L.ρ w1.heap.size (7+4 * d.fs.length),fa:=fun j=>if j=d.fs.length then w1.heap.size else L.fa j },⟨?_,hs 1 (by omega) gd h.lg,fun k e=>?_,h.nm.keep (fun k e=>hk k (by omega) (by omega)) (hs 2 (by omega)) (fun s i e=>hfa i (hr.nm s i e)),h.sf.keep (fun k e=>hk k (by omega) (by omega)) (hs 3 (by omega)) (fun s i e=>hfa i (hr.sf s i e)),
  h.cl.keep (fun k e=>hk k (by omega) (by omega)) (hs 4 (by omega)),?_,h.pl.keep (fun k e=>hk k (by omega) (by omega)) (hs 6 (by omega)),fun i f hf=>?_⟩,Upd.of_only o2 (by omega) he,by show (if d.fs.length=d.fs.length then _ else _)=_;rw [if_pos rfl]⟩
 · have hgd:=(hb.block gd (Array.getElem?_eq_some_iff.1 hg).1).trans hg
   simpa [boxDisk] using hgd
 · by_cases e':k=w1.heap.size
   · rw [e'];simp
   · have e9:L.ρ k ≠ 0:=by
      have e8:put1 L.ρ w1.heap.size (7+4 * d.fs.length) k ≠ 0:=e
      unfold put1 at e8;rw [if_neg e'] at e8;exact e8
     have:=h.dom k e9;simp;omega
 · have e:d.changes.flatMap (chV (fun j=>if j=d.fs.length then w1.heap.size else L.fa j))=d.changes.flatMap (chV L.fa):=flatMap_congr' fun c hc=>by
    unfold chV
    cases hm:c.made with
    | none=>rfl
    | some i =>
      have hl:=hr.ch c hc i hm
      simp only [madeV]
      rw [if_neg (by omega)]
   show OwnL _ _ 112 3 5 L.ch d.changes.length (d.changes.flatMap _)
   rw [e]
   exact h.ch.keep (fun k e=>hk k (by omega) (by omega)) (hs 5 (by omega))
 · by_cases hi:i < d.fs.length
   · have hf':d.fs[i]?=some f:=by rw [← hf];show _=(d.fs++_)[i]?;rw [List.getElem?_append_left hi]
     obtain ⟨vn,vs,vl,hx⟩:=h.fs i f hf'
     refine ⟨vn,vs,vl,?_⟩
     show FAt _ _ i (if i=d.fs.length then _ else _) f vn vs vl
     rw [if_neg (by omega)]
     exact hx.keep (fun k e=>hk k (by omega) (by omega)) (fun k e=>he.same k e)
   · have hf':(d.fs++[(⟨[],[],[]⟩:Fl)])[i]?=some f:=hf
     rw [List.getElem?_append_right (by omega)] at hf'
     obtain rfl:i=d.fs.length:=by
      have:=(List.getElem?_eq_some_iff.1 hf').1
      simp at this;omega
     simp at hf'
     subst hf'
     refine ⟨.slice none 0 0,.slice none 0 0,.slice none 0 0,?_⟩
     show FAt _ _ _ (if d.fs.length=d.fs.length then _ else _) _ _ _ _
     rw [if_pos rfl]
     exact ⟨heap_alloc_new w1 _,by simp [put1],OwnL.nil _ _ _ _ _,OwnL.nil _ _ _ _ _,RunsAt.nil _ _ _⟩
theorem file_any (w:World) (L:Lay) (gd:Nat) (d:Dm) (h:DAt w L gd d) (hr:Refs d) (hf:d.fs.length < 4611686018427387904) :
 Calls Tryz.prog 88 #[.pointer (some ⟨gd,0,none⟩)] w fun e w'=>∃ L',e=.returned (.pointer (some ⟨L'.fa d.fs.length,0,none⟩))∧DAt w' L' gd { d with fs:=d.fs++[⟨[],[],[]⟩] }∧Upd L.ρ L'.ρ w w':=by
 obtain ⟨-,-,-,c3,-,-,-,-,-,-,-,fr⟩:=h.cells
 have f3:=fr 3
 have g1:=heap_setCell_same w gd 3 _ _ (.int .i64 ((d.fs.length:Int)+1)) h.g
 obtain ⟨w1,hw1⟩:∃ w1,w1=w.setCell ⟨gd,3,none⟩ (.int .i64 ((d.fs.length:Int)+1)):=⟨_,rfl⟩
 have ho:Only L.ρ (·=1) w w1:=by rw [hw1];exact Only.setCell w gd 3 _ h.lg
 rw [← hw1] at g1
 have z1:w1.heap.size=w.heap.size:=by rw [hw1];simp
 have e3:w1.cell? ⟨gd,3,none⟩=some (.int .i64 ((d.fs.length:Int)+1)):=by rw [cell_of_row _ _ _ _ _ _ g1];rfl
 have HN:=hid (h.newfile hr ho g1 z1)
 clear fr h g1 ho hr
 go_enter Tryz.func88,Tryz.ntmps88
 go_upto_region 2 with (fail)
 rw [← hw1]
 clear hw1 c3 f3
 go_wp2_with fail
 go_ret
 obtain ⟨L',h1,h2,h3⟩:=HN.out
 exact ⟨L',by rw [h3,z1];rfl,h1,h2⟩
theorem create1_any (w:World) (L:Lay) (gd:Nat) (d:Dm) (h:DAt w L gd d) (hr:Refs d) (hf:d.fs.length < 4611686018427387904) (s:Nm) (hc:ChOk d ⟨[],s,some d.fs.length⟩) (bd bn:Nat) (hbd:Cap w L.ρ bd (boxD gd)) (hbn:Cap w L.ρ bn (boxN (bs s))) :
 Calls Tryz.prog 95 #[.pointer (some ⟨bd,0,none⟩),.pointer (some ⟨bn,0,none⟩)] w fun e w'=>e=.returned (.tuple #[])∧∃ L',DAt w' L' gd (({ d with fs:=d.fs++[⟨[],[],[]⟩] }:Dm).change ⟨[],s,some d.fs.length⟩)∧Upd L.ρ L'.ρ w w':=by
 have k0:=cell0 hbd.1
 have k1:=cell0 hbn.1
 have hd:Below w.heap.size w w.drew:=(Below.refl _ _).drew
 have HD:=hid (h.below hd)
 have HU:=hid (Upd.of_below (ρ:=L.ρ) hd)
 have HBD:=hid (hbd.below hd)
 have HBN:=hid (hbn.below hd)
 have HR:=hid hr
 have HC:=hid (show ChOk { d with fs:=d.fs++[⟨[],[],[]⟩] } ⟨[],s,some d.fs.length⟩ from ⟨hc.nd,hc.src,hc.dst,hc.few,hc.many,hc.old,hc.new⟩)
 clear h hbd hbn hr hc hd
 go_enter Tryz.func95,Tryz.ntmps95
 go_wp2_with fail
 go_region_held3 (fun w'=>w'.cell? ⟨bd,0,none⟩=some (.pointer (some ⟨gd,0,none⟩))∧w'.cell? ⟨bn,0,none⟩=some (.string (bs s))) (first | exact ⟨k0,k1⟩ | exact ⟨cell0 HBD3.out.1,cell0 HBN3.out.1⟩ | exact ⟨cell0 HBD2.out.1,cell0 HBN2.out.1⟩) (first
  | (go_at_call 88;refine (file_any w.drew L gd d HD.out HR.out hf).mono ?_;rintro e w2 ⟨L2,rfl,hd2,hu2⟩
     have HD2:=hid hd2
     have HU2:=hid hu2
     have HBD2:=hid (HBD.out.upd hu2)
     have HBN2:=hid (HBN.out.upd hu2)
     clear hd2 hu2)
  | (go_at_call 96;refine (change_make w2 L2 gd _ HD2.out [] s d.fs.length HC.out).mono ?_;rintro e w3 ⟨rfl,L3,hd3,hu3⟩
     have HD3:=hid hd3
     have HU3:=hid hu3
     have HBD3:=hid (HBD2.out.upd hu3)
     have HBN3:=hid (HBN2.out.upd hu3)
     clear hd3 hu3))
 go_end0
 exact ⟨rfl,L3,HD3.out,(HU.out.trans HU2.out).trans HU3.out⟩
theorem nothing_any (w:World) (n:Int):Calls Tryz.prog 97 #[.int .i64 n] w fun e w'=>e=.returned (.tuple #[])∧w'=w:=by
 go_enter Tryz.func97,Tryz.ntmps97
 go_wp2
 go_end0
 exact ⟨rfl,rfl⟩
end
section
open Go.Maps Go.WideMaps
theorem begin_create (w:World) (L:Lay) (gd:Nat) (d:Dm) (h:DAt w L gd d) (ha:d.acts < 4611686018427387904) (x0 x1:Value) (Wh:Dm→Dm) (Pt:Int→Dm→Dm)
 (hW:∀ w2,Upd L.ρ L.ρ w w2→DAt w2 L gd { d with acts:=d.acts+1 }→Calls Tryz.prog 95 #[x0,x1] w2 fun e w'=>e=.returned (.tuple #[])∧∃ L',DAt w' L' gd (Wh { d with acts:=d.acts+1 })∧Upd L.ρ L'.ρ w2 w')
 (hP:∀ w2 n,Upd L.ρ L.ρ w w2→DAt w2 L gd { d with acts:=d.acts+1 }→Calls Tryz.prog 97 #[.int .i64 n] w2 fun e w'=>e=.returned (.tuple #[])∧∃ L',DAt w' L' gd (Pt n { d with acts:=d.acts+1 })∧Upd L.ρ L'.ρ w2 w') :
 Calls Tryz.prog 94 #[.pointer (some ⟨gd,0,none⟩),.func (.func 95) #[] #[x0,x1],.func (.func 97) #[] #[]] w fun e w'=>e=.returned (.int .i64 (d.begin Wh Pt).2)∧∃ L',DAt w' L' gd (d.begin Wh Pt).1∧Upd L.ρ L'.ρ w w':=by
 have hc0:=h.cells.1
 have hlt:=h.lt
 have HP0:=hid (planned_any w L gd d h d.acts)
 have HD:=hid h
 have HW:=hid hW
 have HP:=hid hP
 have e9:((d.acts+1:Nat):Int)=(d.acts:Int)+1:=by omega
 clear h hW hP
 go_enter Tryz.func94,Tryz.ntmps94
 go_upto_region 2 with (go_at_call 156;(refine HP0.out.mono ?_);rintro e w1 ⟨rfl,hb1⟩;have HB1:=hid hb1;clear hb1 hc0)
 obtain ⟨st,kd,pt,hf⟩:∃ st kd pt,(⟨st,kd,pt⟩:Flt)=d.planned d.acts:=⟨_,_,_,rfl⟩
 have HF:=hid hf
 rw [← hf]
 obtain ⟨w2,hw2⟩:∃ w2,w2=w1.alloc (.cells #[.int .i64 st,.int .i64 kd,.int .i64 pt] 35):=⟨_,rfl⟩
 have z1:=HB1.out.size
 have hb2:Below w.heap.size w w2:=by rw [hw2];exact HB1.out.alloc z1 _
 have g2:w2.heap[w1.heap.size]?=some (.cells #[.int .i64 st,.int .i64 kd,.int .i64 pt] 35):=by rw [hw2];exact heap_alloc_new w1 _
 dsimp only
 rw [← hw2]
 clear hw2 hf
 have hd2:=HD.out.below hb2
 have c0:=hd2.cells.1
 have f0:=hd2.cells.2.2.2.2.2.2.2.2.2.2.2 0
 have hne:w1.heap.size ≠ gd:=by omega
 have k1:∀ x,(w2.setCell ⟨gd,0,none⟩ x).cell? ⟨w1.heap.size,1,none⟩=some (.int .i64 kd):=fun x=>(World.cell?_of_block (heap_setCell_other w2 ⟨gd,0,none⟩ w1.heap.size x hne)).trans (by rw [cell_of_row _ _ _ _ _ _ g2];rfl)
 have k2:∀ x,(w2.setCell ⟨gd,0,none⟩ x).cell? ⟨w1.heap.size,2,none⟩=some (.int .i64 pt):=fun x=>(World.cell?_of_block (heap_setCell_other w2 ⟨gd,0,none⟩ w1.heap.size x hne)).trans (by rw [cell_of_row _ _ _ _ _ _ g2];rfl)
 have ho3:Only L.ρ (·=1) w (w2.setCell ⟨gd,0,none⟩ (.int .i64 ((d.acts:Int)+1))):=(Only.of_below hb2).trans (Only.setCell w2 gd 0 _ HD.out.lg)
 have hd3:DAt (w2.setCell ⟨gd,0,none⟩ (.int .i64 ((d.acts:Int)+1))) L gd { d with acts:=d.acts+1 }:=HD.out.own1 ho3 (by have h9:=heap_setCell_same w2 gd 0 _ _ (.int .i64 ((d.acts:Int)+1)) hd2.g;unfold boxDisk;rw [e9];exact h9) rfl rfl rfl rfl rfl rfl
 have hu3:Upd L.ρ L.ρ w (w2.setCell ⟨gd,0,none⟩ (.int .i64 ((d.acts:Int)+1))):=Upd.of_only ho3 (by omega) (Ext.refl _ _)
 have HWC:=hid (HW.out _ hu3 hd3)
 have HPC:=hid (HP.out _ pt hu3 hd3)
 have HU3:=hid hu3
 have HD3:=hid hd3
 clear e9 ho3 hd3 hu3 hd2 g2 hb2 HB1 HP0 HW HP HD
 have hcase:kd=1∨kd=2∨kd=3∨kd=4∨kd=5∨kd=6∨((kd == 1)=false∧(kd == 2)=false∧(kd == 3)=false∧(kd == 4)=false∧(kd == 5)=false∧(kd == 6)=false):=by simp;omega
 rcases hcase with rfl | rfl | rfl | rfl | rfl | rfl | ⟨e1,e2,e3,e4,e5,e6⟩
 · go_wp2_with fail
   go_ret
   have hE:d.begin Wh Pt=({ d with acts:=d.acts+1 },30):=by unfold Dm.begin;rw [← HF.out];simp
   exact ⟨by rw [hE];rfl,L,by rw [hE];exact HD3.out,HU3.out⟩
 · go_wp2_with (first | (go_at_call 95;refine HWC.out.mono ?_;clear k1 k2 c0 f0;rintro e w4 ⟨rfl,L4,hd4,hu4⟩;have c5:=hd4.cells.2.2.2.2.2.1;have f5:=hd4.cells.2.2.2.2.2.2.2.2.2.2.2 5;have HD4:=hid hd4;have HU4:=hid hu4;clear hd4 hu4))
   go_ret
   have hE:d.begin Wh Pt=(Wh { d with acts:=d.acts+1 },30):=by unfold Dm.begin;rw [← HF.out];simp
   exact ⟨by rw [hE];rfl,L4,by rw [hE];exact HD4.out,HU3.out.trans HU4.out⟩
 · go_wp2_with (first | (go_at_call 97;refine HPC.out.mono ?_;clear k1 k2 c0 f0;rintro e w4 ⟨rfl,L4,hd4,hu4⟩;have c5:=hd4.cells.2.2.2.2.2.1;have f5:=hd4.cells.2.2.2.2.2.2.2.2.2.2.2 5;have HD4:=hid hd4;have HU4:=hid hu4;clear hd4 hu4))
   go_ret
   have hE:d.begin Wh Pt=(Pt pt { d with acts:=d.acts+1 },30):=by unfold Dm.begin;rw [← HF.out];simp
   exact ⟨by rw [hE];rfl,L4,by rw [hE];exact HD4.out,HU3.out.trans HU4.out⟩
 · go_wp2_with (first | (go_at_call 97;refine HPC.out.mono ?_;clear k1 k2 c0 f0;rintro e w4 ⟨rfl,L4,hd4,hu4⟩;have c5:=hd4.cells.2.2.2.2.2.1;have f5:=hd4.cells.2.2.2.2.2.2.2.2.2.2.2 5;have HD4:=hid hd4;have HU4:=hid hu4;clear hd4 hu4))
   go_ret
   have hE:d.begin Wh Pt=(Pt pt { d with acts:=d.acts+1 },31):=by unfold Dm.begin;rw [← HF.out];simp
   exact ⟨by rw [hE];rfl,L4,by rw [hE];exact HD4.out,HU3.out.trans HU4.out⟩
 · go_wp2_with (first | (go_at_call 97;refine HPC.out.mono ?_;clear k1 k2 c0 f0;rintro e w4 ⟨rfl,L4,hd4,hu4⟩;have c5:=hd4.cells.2.2.2.2.2.1;have f5:=hd4.cells.2.2.2.2.2.2.2.2.2.2.2 5;have HD4:=hid hd4;have HU4:=hid hu4;clear hd4 hu4))
   go_ret
   have hE:d.begin Wh Pt=({ Pt pt { d with acts:=d.acts+1 } with power:=false },2):=by unfold Dm.begin;rw [← HF.out];simp
   have ho5:Only L4.ρ (·=1) w4 (w4.setCell ⟨gd,5,none⟩ (.bool false)):=Only.setCell w4 gd 5 _ HD4.out.lg
   exact ⟨by rw [hE];rfl,L4,by rw [hE];exact HD4.out.own1 ho5 (heap_setCell_same w4 gd 5 _ _ _ HD4.out.g) rfl rfl rfl rfl rfl rfl,(HU3.out.trans HU4.out).trans (Upd.of_only ho5 (by omega) (Ext.refl _ _))⟩
 · go_wp2_with (first | (go_at_call 95;refine HWC.out.mono ?_;clear k1 k2 c0 f0;rintro e w4 ⟨rfl,L4,hd4,hu4⟩;have c5:=hd4.cells.2.2.2.2.2.1;have f5:=hd4.cells.2.2.2.2.2.2.2.2.2.2.2 5;have HD4:=hid hd4;have HU4:=hid hu4;clear hd4 hu4))
   go_ret
   have hE:d.begin Wh Pt=({ Wh { d with acts:=d.acts+1 } with power:=false },2):=by unfold Dm.begin;rw [← HF.out];simp
   have ho5:Only L4.ρ (·=1) w4 (w4.setCell ⟨gd,5,none⟩ (.bool false)):=Only.setCell w4 gd 5 _ HD4.out.lg
   exact ⟨by rw [hE];rfl,L4,by rw [hE];exact HD4.out.own1 ho5 (heap_setCell_same w4 gd 5 _ _ _ HD4.out.g) rfl rfl rfl rfl rfl rfl,(HU3.out.trans HU4.out).trans (Upd.of_only ho5 (by omega) (Ext.refl _ _))⟩
 · go_wp2_with (first | (go_at_call 95;refine HWC.out.mono ?_;clear k1 k2 c0 f0;rintro e w4 ⟨rfl,L4,hd4,hu4⟩;have c5:=hd4.cells.2.2.2.2.2.1;have f5:=hd4.cells.2.2.2.2.2.2.2.2.2.2.2 5;have HD4:=hid hd4;have HU4:=hid hu4;clear hd4 hu4))
   go_ret
   have hE:d.begin Wh Pt=(Wh { d with acts:=d.acts+1 },0):=by unfold Dm.begin;rw [← HF.out];simp at e1 e2 e3 e4 e5 e6;simp [e1,e2,e3,e4,e5,e6]
   exact ⟨by rw [hE];rfl,L4,by rw [hE];exact HD4.out,HU3.out.trans HU4.out⟩
end
section
open Go.Maps Go.WideMaps
structure Pre (d:Dm):Prop where
 refs:Refs d
 nn:(keysOf d.names).Nodup
 ns:(keysOf d.safe).Nodup
 few:d.names.length≤4096
 fewS:d.safe.length≤4096
 acts:d.acts < 1099511627776
 epoch:d.epoch < 1099511627776
 fsl:d.fs.length < 1099511627776
 chl:d.changes.length < 1099511627776
 leg:∀ s ∈ keysOf d.names,legalB (bs s)=true
 fl:∀ f ∈ d.fs,f.now.length≤2147483647∧f.safe.length≤2147483647∧f.loose.length < 1099511627776
theorem Pre.act {d:Dm} (h:Pre d) {e:Dm} (he:e={ d with acts:=d.acts+1 }):Refs e∧(keysOf e.names).Nodup∧e.names.length≤4096∧e.changes.length < 1099511627776:=by
 subst he;exact ⟨⟨h.refs.nm,h.refs.sf,h.refs.ch⟩,h.nn,h.few,h.chl⟩
theorem legal_len {s:Nm} (h:legalB (bs s)=true):s.length≤32∧s ≠ []:=by
 unfold legalB at h
 simp only [Bool.and_eq_true,decide_eq_true_eq] at h
 obtain ⟨⟨⟨h1,h2⟩,-⟩,-⟩:=h
 refine ⟨by simpa [bs,ByteArray.size] using h2,fun e=>?_⟩
 subst e;simp [bs] at h1
theorem Pre.file {d:Dm} (h:Pre d) (i:Nat):(d.file i).now.length≤2147483647∧(d.file i).safe.length≤2147483647∧(d.file i).loose.length < 1099511627776:=by
 unfold Dm.file
 cases e:d.fs[i]? with
 | none=>simp
 | some f=>exact h.fl f (List.mem_of_getElem? e)
def ToldV (v:Value) (w':World) (ρ:Nat→Nat) (c n:ByteArray) (y:Int):Prop:=(y=0∧v=.nilIface)∨(y ≠ 0∧∃ g,v=.iface 90 (.pointer (some ⟨g,0,none⟩))∧w'.heap[g]?=some (boxF c n y)∧ρ g=0)
theorem told2 (w:World) (ρ:Nat→Nat) (hd:∀ k,ρ k ≠ 0→k < w.heap.size) (c n:ByteArray) (y:Int):Calls Tryz.prog 91 #[.string c,.string n,.int .i64 y] w fun e w'=>(∃ v,e=.returned v∧ToldV v w' ρ c n y)∧Below w.heap.size w w':=by
 have h0:∀ g,w.heap.size≤g→ρ g=0:=fun g hg=>by
  rcases Nat.eq_zero_or_pos (ρ g) with h | h
  · exact h
  · have:=hd g (by omega);omega
 have H0:=hid h0
 clear hd h0
 cases hy:(y == 0)
 · have H:=hid (show y ≠ 0 by simpa using hy)
   go_enter Tryz.func91,Tryz.ntmps91
   go_wp2_with (go_at_call 37;refine (newfault_any _ _ _ _).mono ?_;rintro e w' ⟨⟨g,rfl,hg,hh⟩,hb⟩)
   go_ret
   exact ⟨⟨_,rfl,.inr ⟨H.out,g,rfl,hh,H0.out g hg⟩⟩,hb⟩
 · obtain rfl:y=0:=by simpa using hy
   go_enter Tryz.func91,Tryz.ntmps91
   go_wp2
   go_ret
   exact ⟨⟨_,rfl,.inl ⟨rfl,rfl⟩⟩,Below.refl _ _⟩
theorem NAt.len {w:World} {ρ:Nat→Nat} {r:Nat} {fa:Nat→Nat} {b:Nat} {m:List (Nm × Nat)} (h:NAt w ρ r fa b m) (ty:TypeId):(Builtin.len_ #[47] ty #[.map (some b)]).run Tryz.prog w=.ok (.int .i64 m.length) w:=by
 obtain ⟨D,hm,-,hz,-⟩:=h
 rw [hm.len Tryz.underlying47 ty,hz]
theorem ToldV.below {v:Value} {w w':World} {ρ:Nat→Nat} {c n:ByteArray} {y:Int} (h:ToldV v w ρ c n y) (hb:Below w.heap.size w w'):ToldV v w' ρ c n y:=by
 rcases h with h | ⟨h1,g,h2,h3,h4⟩
 · exact .inl h
 · exact .inr ⟨h1,g,h2,(hb.block g (Array.getElem?_eq_some_iff.1 h3).1).trans h3,h4⟩
theorem ToldV.upd {v:Value} {w w':World} {ρ ρ':Nat→Nat} {c n:ByteArray} {y:Int} (h:ToldV v w ρ c n y) (hu:Upd ρ ρ' w w'):ToldV v w' ρ' c n y:=by
 rcases h with h | ⟨h1,g,h2,h3,h4⟩
 · exact .inl h
 · have hlt:=(Array.getElem?_eq_some_iff.1 h3).1
   exact .inr ⟨h1,g,h2,(hu.block g hlt h4).trans h3,hu.ext.old g hlt h4⟩
abbrev crB:ByteArray:=⟨#[67,114,101,97,116,101]⟩
theorem create_any (w:World) (L:Lay) (gd:Nat) (d:Dm) (h:DAt w L gd d) (hp:Pre d) (s:Nm) (hs:s.length≤maxLen) :
 Calls Tryz.prog 42 #[.pointer (some ⟨gd,0,none⟩),.string (bs s)] w fun e w'=>∃ L',DAt w' L' gd (d.create s).1∧Upd L.ρ L'.ρ w w'∧∃ v,e=.returned v∧ToldV v w' L'.ρ crB (bs s) (d.create s).2:=by
 obtain ⟨w1,hw1⟩:∃ w1,w1=(w.alloc (boxD gd)).alloc (boxN (bs s)):=⟨_,rfl⟩
 have hb1:Below w.heap.size w w1:=by rw [hw1];exact ((Below.refl _ _).alloc (Nat.le_refl _) _).alloc (by simp) _
 have g0:w1.heap[w.heap.size]?=some (boxD gd):=by rw [hw1];exact heap_alloc2_old w _ _
 have g1:w1.heap[w.heap.size+1]?=some (boxN (bs s)):=by rw [hw1];exact heap_alloc2_new w _ _
 have z1:w.heap.size+1 < w1.heap.size:=by rw [hw1];simp
 have h0:∀ g,w.heap.size≤g→L.ρ g=0:=fun g hg=>by
  rcases Nat.eq_zero_or_pos (L.ρ g) with h9 | h9
  · exact h9
  · have:=h.dom g (by omega);omega
 have HD1:=hid (h.below hb1)
 have HU1:=hid (Upd.of_below (ρ:=L.ρ) hb1)
 have G0:=hid (show Cap w1 L.ρ w.heap.size (boxD gd) from ⟨g0,h0 _ (Nat.le_refl _)⟩)
 have G1:=hid (show Cap w1 L.ρ (w.heap.size+1) (boxN (bs s)) from ⟨g1,h0 _ (by omega)⟩)
 have k0:=cell0 g0
 have k1:=cell0 g1
 have HP:=hid hp
 have HA:=hid (ask1 (w1.alloc (.cells #[.string (bs s)] 9)) L gd d (HD1.out.below (bel1 _ _)) w1.heap.size 0 1 s hs (cell0 (heap_alloc_new w1 _)))
 clear h hb1 g0 g1 hp h0
 go_enter Tryz.func42,Tryz.ntmps42
 go_upto_region 1 with (fail)
 rw [← hw1]
 clear hw1
 go_wp2_with fail
 with_reducible refine HA.out.mono ?_
 rintro e w3 ⟨rfl,hb3⟩
 have hb13:Below w1.heap.size w1 w3:=(bel1 w1 _).trans (hb3.mono (by simp))
 have HD3:=hid (HD1.out.below hb13)
 have HU3:=hid (HU1.out.trans (Upd.of_below (ρ:=L.ρ) hb13))
 have HG0:=hid (G0.out.below hb13)
 have HG1:=hid (G1.out.below hb13)
 have m0:=cell0 HG0.out.1
 have m1:=cell0 HG1.out.1
 have z3:w1.heap.size≤w3.heap.size:=hb13.size
 obtain ⟨-,-,-,-,-,-,c6,-⟩:=HD3.out.cells
 have hln:∀ ty,(Builtin.len_ #[47] ty #[.map (some L.nb)]).run Tryz.prog w3=.ok (.int .i64 d.names.length) w3:=fun ty=>HD3.out.nm.len ty
 clear k0 k1 hb13 hb3 HA
 obtain ⟨r,why,hask⟩:∃ r why,d.ask s=(r,why):=⟨_,_,rfl⟩
 rw [hask]
 dsimp only
 have hcr:d.create s=if why=0 then (d,33) else if why=32 then if 4096≤d.names.length then (d,31) else d.begin (fun e=>({ e with fs:=e.fs++[⟨[],[],[]⟩] }:Dm).change ⟨[],s,some e.fs.length⟩) (fun _ e=>e) else (d,why):=by unfold Dm.create;rw [hask]
 have HCR:=hid hcr
 have HASK:=hid hask
 clear hcr hask
 cases e0:(why == 0)
 rotate_left
 · obtain rfl:why=0:=by simpa using e0
   have HE:=hid (show d.create s=(d,33) by rw [HCR.out];simp)
   clear e0
   go_wp2_with fail
   with_reducible refine (told2 w3 L.ρ HD3.out.dom crB (bs s) 33).mono ?_
   rintro e w9 ⟨⟨v,rfl,hv⟩,hb9⟩
   have HV:=hid hv
   have HB9:=hid hb9
   clear hv hb9
   go_wp2_with fail
   go_ret
   exact ⟨L,by rw [HE.out];exact HD3.out.below HB9.out,HU3.out.trans (Upd.of_below HB9.out),v,rfl,by rw [HE.out];exact HV.out⟩
 cases e32:(why == 32)
 · have HE:=hid (show d.create s=(d,why) by rw [HCR.out];simp at e0 e32;simp [e0,e32])
   go_wp2_with fail
   with_reducible refine (told2 w3 L.ρ HD3.out.dom crB (bs s) why).mono ?_
   rintro e w9 ⟨⟨v,rfl,hv⟩,hb9⟩
   have HV:=hid hv
   have HB9:=hid hb9
   clear hv hb9
   go_wp2_with fail
   go_ret
   exact ⟨L,by rw [HE.out];exact HD3.out.below HB9.out,HU3.out.trans (Upd.of_below HB9.out),v,rfl,by rw [HE.out];exact HV.out⟩
 obtain rfl:why=32:=by simpa using e32
 clear e0 e32
 by_cases hfull:4096≤d.names.length
 · have HE:=hid (show d.create s=(d,31) by rw [HCR.out];simp [hfull])
   have hfI:(4096:Int)≤(d.names.length:Int):=by omega
   go_wp2_with fail
   with_reducible refine (told2 w3 L.ρ HD3.out.dom crB (bs s) 31).mono ?_
   rintro e w9 ⟨⟨v,rfl,hv⟩,hb9⟩
   have HV:=hid hv
   have HB9:=hid hb9
   clear hv hb9
   go_wp2_with fail
   go_ret
   exact ⟨L,by rw [HE.out];exact HD3.out.below HB9.out,HU3.out.trans (Upd.of_below HB9.out),v,rfl,by rw [HE.out];exact HV.out⟩
 have hleg:legalB (bs s)=true:=by
  have h1:=HASK.out
  unfold Dm.ask at h1
  split at h1
  · cases h1
  · split at h1
    · cases h1
    · rename_i h2;simpa using h2
 have hfI:¬ (4096:Int)≤(d.names.length:Int):=by omega
 have HE:=hid (show d.create s=d.begin (fun e=>({ e with fs:=e.fs++[⟨[],[],[]⟩] }:Dm).change ⟨[],s,some e.fs.length⟩) (fun _ e=>e) by rw [HCR.out];simp [hfull])
 have HBG:=hid (begin_create w3 L gd d HD3.out (by have:=HP.out.acts;omega) (.pointer (some ⟨w.heap.size,0,none⟩)) (.pointer (some ⟨w.heap.size+1,0,none⟩)) (fun e=>({ e with fs:=e.fs++[⟨[],[],[]⟩] }:Dm).change ⟨[],s,some e.fs.length⟩) (fun _ e=>e)
  (fun w2 hu2 hd2=>create1_any w2 L gd _ hd2 (HP.out.act rfl).1 (by have:=HP.out.fsl;show d.fs.length < _;omega) s ⟨HP.out.nn,by simp,hs,by have:=HP.out.few;show d.names.length < _;omega,HP.out.chl,(fun h=>by cases h),fun _=>(legal_len hleg).2⟩ w.heap.size (w.heap.size+1) (HG0.out.upd hu2) (HG1.out.upd hu2))
  (fun w2 n hu2 hd2=>(nothing_any w2 n).mono fun e w' ⟨he,hw⟩=>by subst hw;exact ⟨he,L,hd2,Upd.refl _ _⟩))
 clear hfull hleg
 go_wp2_with (go_at_call 94;refine HBG.out.mono ?_;rintro e w4 ⟨rfl,L4,hd4,hu4⟩;have HD4:=hid hd4;have HU4:=hid (HU3.out.trans hu4);have m1':=cell0 (HG1.out.upd hu4).1;clear hd4 hu4 c6 hln m0 m1)
 obtain ⟨y,hy⟩:∃ y,y=(d.begin (fun e=>({ e with fs:=e.fs++[⟨[],[],[]⟩] }:Dm).change ⟨[],s,some e.fs.length⟩) (fun _ e=>e)).2:=⟨_,rfl⟩
 rw [← hy]
 have HY:=hid hy
 clear hy
 with_reducible refine (told2 w4 L4.ρ HD4.out.dom crB (bs s) y).mono ?_
 rintro e w9 ⟨⟨v,rfl,hv⟩,hb9⟩
 have HV:=hid hv
 have HB9:=hid hb9
 clear hv hb9
 go_wp2_with fail
 go_ret
 exact ⟨L4,by rw [HE.out];exact HD4.out.below HB9.out,HU4.out.trans (Upd.of_below HB9.out),v,rfl,by rw [HE.out,← HY.out];exact HV.out⟩
end
end Go.Proofs.YtgkehahklccacaaGreatDoor
