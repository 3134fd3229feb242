import Derived.Test.YtcnckjlmldnblaaGreatDoorE14
namespace Go.Proofs.YtcnckjlmldnblaaGreatDoor
open Go Go.RowKit
set_option maxRecDepth 100000
set_option maxHeartbeats 4000000
set_option linter.unusedVariables false
set_option linter.unusedSimpArgs false
theorem sl33:Sl Tryz.prog 23 50 (.agg #[.string ByteArray.empty,.int .i64 0,.int .i64 0,.string ByteArray.empty,.slice none 0 0]) 5 72:=⟨by kernel_rfl,by kernel_rfl,rfl,by decide⟩
theorem one_bcs {bs:List Bc}:∀ u ∈ bs.flatMap Bc.cs,u.oneCell'=true:=fun u hu=>by
 obtain ⟨b,-,h⟩:=List.mem_flatMap.1 hu
 simp only [Bc.cs,List.mem_cons,List.not_mem_nil,or_false] at h
 rcases h with rfl | rfl | rfl | rfl | rfl <;> rfl
theorem eqn33 (w:World):(binOp .eql 23 (.slice none 0 0) (.slice none 0 0)).run Tryz.prog w=.ok (.bool true) w:=by kernel_rfl
theorem eqs33 (ad:Addr) (n c:Nat) (w:World):(binOp .eql 23 (.slice (some ad) n c) (.slice none 0 0)).run Tryz.prog w=.ok (.bool false) w:=by kernel_rfl
theorem block_lt_of_cell' {w:World} {a:Addr} {v:Value} (h:w.cell? a=some v):a.block < w.heap.size:=World.block_lt_of_cell? w a h
theorem src_cells {α:Type} {s:Nat} {enc:α→List Value} (he:∀ x,(enc x).length=s) (hs:0 < s) {w:World} {a:Option Addr} {n c:Nat} {xs:List α} (h:RS s enc w a n c xs) (hz:a=none→c=0) :
 (a=none∧n=0∧c=0∧xs.flatMap enc=[])∨∃ ad,a=some ad∧∀ j u,(xs.flatMap enc)[j]?=some u→w.cell? (ad.add j)=some u:=by
 cases a with
 | none =>
   refine .inl ⟨rfl,?_,hz rfl,?_⟩
   · rcases Nat.eq_zero_or_pos n with e | e
     · exact e
     · obtain ⟨b,o,x,e,-⟩:=h.at e
       cases e
   · cases xs with
     | nil=>rfl
     | cons x t =>
       obtain ⟨b,o,e,-⟩:=h.2.2.2 0 x rfl
       cases e
 | some ad=>exact .inr ⟨ad,rfl,h.cells he hs rfl⟩
theorem cloneB_any (w:World) (a:Option Addr) (n c:Nat) (bs:List Bc) (hx:RS 5 Bc.cs w a n c bs) (hz:a=none→c=0) (hn:n≤1000000) :
 Calls Tryz.prog 24 #[.slice a n c] w fun e w'=>∃ a' c',e=.returned (.slice a' n c')∧w'.ownsRow w.heap.size 50 5 (.slice a' n c') n (bs.flatMap Bc.cs)∧Below w.heap.size w w':=by
 have hl:=hx.1
 rcases src_cells Bc_len (by decide) hx hz with ⟨rfl,rfl,rfl,hnil⟩ | ⟨ad,rfl,hc⟩
 · rw [hnil]
   clear hx hz hl hnil
   have hq:=eqn33 w
   go_enter Tryz.func24,Tryz.ntmps24
   go_wp2
   go_ret
   exact ⟨none,0,rfl,World.ownsRow_nil _ _ _ _,Below.refl _ _⟩
 · have HC:=Lib.hid hc
   have HL:=Lib.hid hl
   clear hx hz hc hl
   have hq:=eqs33 ad n c w
   have HO:=Lib.hid (World.ownsRow_lit (w:=w) (base:=w.heap.size) (e:=50) (size:=5) #[] 0 (Nat.le_refl _) (by simp [maxLen]) rfl)
   have HC1:=Lib.hid (fun j u hu=>((bel1 w (.cells #[] 50)).cell (block_lt_of_cell' (HC.out j u hu))).trans (HC.out j u hu):∀ j u,(bs.flatMap Bc.cs)[j]?=some u→(w.alloc (.cells #[] 50)).cell? (ad.add j)=some u)
   go_enter Tryz.func24,Tryz.ntmps24
   go_upto_region 3 with (fail)
   go_wp2_with (at_builtin;(refine L_appendE rfl _ _ _ rfl sl33 w.heap.size (some ⟨w.heap.size,0,none⟩) 0 0 [] rfl HO.out (some ad) n c (bs.flatMap Bc.cs) rfl (.inr ⟨ad,rfl,HC1.out⟩) (by rw [flat_len Bc.cs 5 Bc_len,HL.out]) one_bcs (by omega) (by simp [maxLen];omega) (by simp) (fun a2 k2 w2 ho2 hg2=>?_)
                            rw [List.nil_append,Nat.zero_add] at ho2
                            have hb2:Below w.heap.size w w2:=(bel1 w (.cells #[] 50)).grown hg2 (by simp) (fun k hk=>by cases hk;exact Nat.le_refl _)
                            have HO2:=Lib.hid ho2
                            have HB2:=Lib.hid hb2
                            clear ho2 hg2 hb2))
   go_ret
   exact ⟨a2,k2,rfl,HO2.out,HB2.out⟩
end Go.Proofs.YtcnckjlmldnblaaGreatDoor
