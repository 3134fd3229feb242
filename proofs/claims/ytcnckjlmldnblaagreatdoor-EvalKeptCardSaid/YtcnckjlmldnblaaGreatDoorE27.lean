import Derived.Test.YtcnckjlmldnblaaGreatDoorE14
import Derived.Recover
import Derived.Defers
import Derived.Test.YtcnckjlmldnblaaGreatDoorE8
namespace Go.Proofs.YtcnckjlmldnblaaGreatDoor
open Go Go.RowKit
set_option maxRecDepth 100000
set_option maxHeartbeats 4000000
set_option linter.unusedVariables false
set_option linter.unusedSimpArgs false
/-- One node's kids: the numbers that are taken already. -/
def kidsF (i:Nat):List Bool→List Int→Option (List Bool)
 | s,[]=>some s
 | s,k :: t=>if k < 0∨(i:Int)≤k then none else if s.getD k.toNat false=true then none else kidsF i (s.set k.toNat true) t
/-- Is what is marked a tree, from the highest mark down? -/
def treeG (ns:List Nd):Nat→List Bool→Bool
 | 0,_=>true
 | i+1,s=>if s.getD i false=true then (match ns[i]? with
   | none=>false
   | some nd=>if nd.right=true then (match kidsF i s nd.ks with
     | none=>false
     | some s'=>treeG ns i s') else false) else treeG ns i s
def treeR (ns:List Nd) (q:Nat):Bool:=treeG ns (q+1) ((List.replicate (q+1) false).set q true)
theorem kidsF_len (i:Nat) (l:List Int):∀ (s s':List Bool),kidsF i s l=some s'→s'.length=s.length:=by
 induction l with
 | nil=>intro s s' h;simp only [kidsF,Option.some.injEq] at h;rw [h]
 | cons k t ih =>
   intro s s' h
   simp only [kidsF] at h
   split at h
   · cases h
   · split at h
     · cases h
     · rw [ih _ _ h];simp
theorem sl93:Sl Tryz.prog 92 4 (.bool false) 1 1:=⟨by kernel_rfl,by kernel_rfl,rfl,by decide⟩
theorem madeB (n:Nat):(madeCells (Value.bool false).cells (n * 1)).toList=(List.replicate n false).map Value.bool:=by
 rw [show (Value.bool false).cells=#[Value.bool false] from rfl,toList_madeCells_one];simp
theorem drop_cons {α:Type} {l:List α} {k:Nat} {x:α} (h:l[k]?=some x):l.drop k=x :: l.drop (k+1):=by
 obtain ⟨h1,h2⟩:=List.getElem?_eq_some_iff.1 h
 rw [← h2];exact List.drop_eq_getElem_cons h1
def DownI (k:Nat) (i:Value):Prop:=(k=0∧i=.int .i64 (-1))∨∃ j:Nat,k=j+1∧i=.int .i64 j
theorem DownI.pred (j:Nat):DownI j (.int .i64 ((j:Int) - 1)):=by
 cases j with
 | zero=>exact .inl ⟨rfl,rfl⟩
 | succ j=>exact .inr ⟨j,rfl,congrArg _ (by omega)⟩
theorem tree_any (w:World) (a:Option Addr) (n c:Nat) (ns:List Nd) (hr:RS 7 Nd.cs w a n c ns) (hok:∀ nd ∈ ns,nd.ok w) (ht:ResTab w 1) (h2:1 < w.heap.size) (q:Nat) (hq:q < n) :
 Calls Tryz.prog 27 #[.slice a n c,.int .i64 q] w fun e w'=>e=.returned (.bool (treeR ns q))∧Below w.heap.size w w':=by
 have hlen:=hr.1
 have hn48:=hr.2.2.1
 have hqI:(q:Int) < (n:Int):=by omega
 have HR:=Lib.hid hr
 have HOK:=Lib.hid hok
 have HT:=Lib.hid ht
 clear hr hok ht
 obtain ⟨B,hB⟩:∃ B,B=w.heap.size:=⟨_,rfl⟩
 have HBB:=Lib.hid hB
 go_enter Tryz.func27,Tryz.ntmps27
 go_wp2_with (at_make;refine L_make rfl _ _ _ rfl sl93 w.heap.size .i64 .i64 _ (q+1) rfl rfl (by omega) (by omega) (by simp [maxLen];omega) (Nat.le_refl _) (fun w1 ho1 hg1=>?_)
              rw [madeB,← hB] at ho1
              have hb1:Below B w w1:=by have:=(Below.refl w.heap.size w).grown hg1 (Nat.le_refl _) (by intro k hk;cases hk);rwa [← hB] at this
              rw [← hB]
              have H2:=Lib.hid h2
              have hc:=ho1.cellAt q (by omega)
              have hfz:=ho1.frozenAt q
              rw [List.getElem?_map,List.getElem?_replicate,if_pos (by omega)] at hc
              simp only [Option.map_some] at hc
              have ho5:=(ho1.stored q (.bool true)).1
              rw [← List.map_set] at ho5
              have HO1:=Lib.hid ho5
              have HB1:=Lib.hid (hb1.setCell (p:=⟨B,q,none⟩) (by show B≤B;omega) (.bool true))
              have hq1:(q:Int) < (q:Int)+1:=by omega
              have hq2:(0:Int)≤(q:Int):=by omega
              clear hg1 hB hb1 h2 ho5 ho1)
 go_loopw [6] (fun i wr=>∃ k:Nat,k≤q+1∧DownI k i∧∃ s:List Bool,wr.ownsRow B 4 1 (.slice (some ⟨B,0,none⟩) (q+1) (q+1)) (q+1) (s.map Value.bool)∧Below B w wr∧treeR ns q=treeG ns k s) (fun i _=>(intOf i+1).toNat)
 case atStart=>exact ⟨q+1,Nat.le_refl _,.inr ⟨q,rfl,rfl⟩,_,HO1.out,HB1.out,rfl⟩
 case round =>
  obtain ⟨k,hk,hi,s,ho,hb,hs⟩:=hrel
  have HO:=Lib.hid ho
  have HB:=Lib.hid hb
  have HS:=Lib.hid hs
  have zr:=hb.size
  have hsl:s.length=q+1:=by have:=ho.1;simpa using this
  have HSL:=Lib.hid hsl
  clear ho hb hs hsl
  rcases hi with ⟨rfl,rfl⟩ | ⟨j,rfl,rfl⟩
  · have HE:=Lib.hid (show treeR ns q=true by rw [HS.out];rfl)
    go_wp2
    go_ret
    exact ⟨ret_bool HE.out.symm,by have:=HB.out;rwa [HBB.out] at this⟩
  · have hj0:(0:Int)≤(j:Int):=by omega
    have hjn:j < n:=by omega
    have hjI:(j:Int) < (n:Int):=by omega
    have hjq:(j:Int) < (q:Int)+1:=by omega
    have hc:=HO.out.cellAt j (by omega)
    obtain ⟨bv,hbv⟩:∃ bv,s[j]?=some bv:=⟨_,List.getElem?_eq_getElem (by have:=HSL.out;omega)⟩
    rw [List.getElem?_map,hbv] at hc
    simp only [Option.map_some] at hc
    have hgd:s.getD j false=bv:=by rw [List.getD_eq_getElem?_getD,hbv];rfl
    have HGD:=Lib.hid hgd
    clear hgd hbv
    cases bv
    · have HN:=Lib.hid (show treeR ns q=treeG ns j s by rw [HS.out];simp only [treeG,HGD.out];rfl)
      go_wp2_with fail
      go_roundw
      case rel=>exact ⟨j,by omega,DownI.pred j,s,HO.out,HB.out,HN.out⟩
      case measure=>simp [intOf]
    · obtain ⟨nb,no,nd,he,hnd,hcl0⟩:=HR.out.at hjn
      have HHE:=Lib.hid he
      have hcl:=fun j' v hv=>(HB.out.cell (p:=⟨nb,no+j * 7+j',none⟩) (by have:=block_lt_of_cell (hcl0 j' v hv);rw [HBB.out];exact this)).trans (hcl0 j' v hv)
      subst he
      have n0:=hcl 0 _ rfl
      have n1:=hcl 1 _ rfl
      have n2:=hcl 2 _ rfl
      have n3:=hcl 3 _ rfl
      have n4:=hcl 4 _ rfl
      have n5:=hcl 5 _ rfl
      have n6:=hcl 6 _ rfl
      simp only [Nat.add_zero] at n0
      have HN6:=Lib.hid (hcl0 6 _ rfl)
      have HND:=Lib.hid hnd
      have hnok:=HOK.out nd (List.mem_of_getElem? hnd)
      have hnm:=hnok.2.1
      have HVN:=Lib.hid hnok.2.2
      have HKR:=Lib.hid hnok.1
      have hwB:=Lib.hid (HBB.out ▸ HB.out:Below w.heap.size w wr)
      have HRT:=Lib.hid (HT.out.below hwB.out H2.out H2.out)
      have h2r:1 < wr.heap.size:=by have:=H2.out;have:=HBB.out;omega
      have HE:=Lib.hid (show treeR ns q=(if nd.right=true then (match kidsF j s nd.ks with | none=>false | some s'=>treeG ns j s') else false) by rw [HS.out];simp only [treeG,HGD.out,HND.out,if_true])
      clear hcl hcl0 hnd hnok
      go_wp2_with fail
      with_reducible refine (right_any wr nd.op nd.nm nd.vk nd.vn nd.vt nd.sa nd.sl nd.sc nd.ka nd.kl nd.kc hnm HRT.out HVN.out h2r).mono ?_
      rintro e w3 ⟨rfl,hb3⟩
      have HB3:=Lib.hid (hwB.out.trans (hb3.mono hwB.out.size))
      have HO3:=Lib.hid (own_below HO.out hb3)
      have m6:=(HB3.out.cell (p:=⟨nb,no+j * 7+6,none⟩) (block_lt_of_cell HN6.out)).trans HN6.out
      clear n0 n1 n2 n3 n4 n5 n6 hb3 hc
      rw [show rightB nd.op nd.nm.data.toList nd.vk nd.vn nd.vt.data.toList nd.sl nd.kl=nd.right from rfl]
      cases hri:nd.right
      · have HN:=Lib.hid (show treeR ns q=false by rw [HE.out,hri];rfl)
        clear hri
        go_wp2
        go_ret
        exact ⟨ret_bool HN.out.symm,HB3.out⟩
      · have HN:=Lib.hid (show treeR ns q=(match kidsF j s nd.ks with | none=>false | some s'=>treeG ns j s') by rw [HE.out,hri,if_pos rfl])
        clear hri
        have hkl:=HKR.out.1
        have hkl48:=HKR.out.2.2.1
        go_wp2_with fail
        obtain ⟨wo,rfl⟩:∃ wo:World,wo=wr:=⟨_,rfl⟩
        generalize nd.ka=ka at *
        go_loopw [37] (fun v wx=>∃ m:Nat,m≤nd.kl∧v=.int .i64 m∧∃ t:List Bool,wx.ownsRow B 4 1 (.slice (some ⟨B,0,none⟩) (q+1) (q+1)) (q+1) (t.map Value.bool)∧Below w.heap.size w wx∧kidsF j s nd.ks=kidsF j t (nd.ks.drop m)) (fun v _=>nd.kl - (intOf v).toNat)
        case atStart=>exact ⟨0,by omega,rfl,s,HO3.out,HB3.out,rfl⟩
        case round =>
         obtain ⟨m,hm,rfl,t,ho4,hb4,hf4⟩:=hrel
         have HO4:=Lib.hid ho4
         have HB4:=Lib.hid hb4
         have HF4:=Lib.hid hf4
         have htl:t.length=q+1:=by have:=ho4.1;simpa using this
         have HTL:=Lib.hid htl
         clear ho4 hb4 hf4 htl
         by_cases hmt:m < nd.kl
         · obtain ⟨kb,ko,x,rfl,hx,hxc⟩:=HKR.out.at hmt
           have xc0:=hxc 0 _ rfl
           have xc:=(HB4.out.cell (p:=⟨kb,ko+m * 1+0,none⟩) (block_lt_of_cell xc0)).trans xc0
           simp only [Nat.add_zero,Nat.mul_one] at xc
           have HX:=Lib.hid (drop_cons hx)
           have hmI:(m:Int) < (nd.kl:Int):=by omega
           clear hx hxc xc0
           by_cases hneg:x < 0
           · have HM:=Lib.hid (show treeR ns q=false by rw [HN.out,HF4.out,HX.out];simp [kidsF,hneg])
             go_wp2
             go_ret
             exact ⟨ret_bool HM.out.symm,HB4.out⟩
           by_cases hge:(j:Int)≤x
           · have HM:=Lib.hid (show treeR ns q=false by rw [HN.out,HF4.out,HX.out];simp [kidsF,hge])
             go_wp2
             go_ret
             exact ⟨ret_bool HM.out.symm,HB4.out⟩
           obtain ⟨xn,rfl⟩:∃ xn:Nat,x=(xn:Int):=⟨x.toNat,by omega⟩
           have hxn:xn < q+1:=by omega
           have hxI:(xn:Int) < (q:Int)+1:=by omega
           have hge':¬ j≤xn:=by omega
           have hc:=HO4.out.cellAt xn (by omega)
           have hfz:=HO4.out.frozenAt xn
           obtain ⟨bv,hbv⟩:∃ bv,t[xn]?=some bv:=⟨_,List.getElem?_eq_getElem (by have:=HTL.out;omega)⟩
           rw [List.getElem?_map,hbv] at hc
           simp only [Option.map_some] at hc
           have hgd:t.getD xn false=bv:=by rw [List.getD_eq_getElem?_getD,hbv];rfl
           cases bv
           · have HM:=Lib.hid (show kidsF j s nd.ks=kidsF j (t.set xn true) (nd.ks.drop (m+1)) by rw [HF4.out,HX.out];simp only [kidsF,Int.toNat_natCast,hgd];rw [if_neg (by omega),if_neg (by decide)])
             have ho5:=(HO4.out.stored xn (.bool true)).1
             rw [← List.map_set] at ho5
             have HO5:=Lib.hid ho5
             have HB5:=Lib.hid (HB4.out.setCell (p:=⟨B,xn,none⟩) (by show w.heap.size≤B;have:=HBB.out;omega) (.bool true))
             clear hbv hgd ho5
             go_wp2
             go_roundw
             case rel=>exact ⟨m+1,by omega,by go_num,_,HO5.out,HB5.out,HM.out⟩
             case measure=>simp [intOf];omega
           · have HM:=Lib.hid (show treeR ns q=false by rw [HN.out,HF4.out,HX.out];simp only [kidsF,Int.toNat_natCast,hgd];rw [if_neg (by omega),if_pos trivial])
             clear hbv hgd
             go_wp2
             go_ret
             exact ⟨ret_bool HM.out.symm,HB4.out⟩
         · have hmI:¬ (m:Int) < (nd.kl:Int):=by omega
           have HM:=Lib.hid (show treeR ns q=treeG ns j t by rw [HN.out,HF4.out,List.drop_of_length_le (show nd.ks.length≤m by omega)];rfl)
           have HBo:=Lib.hid (show Below B w wr by rw [HBB.out];exact HB4.out)
           go_wp2
           go_roundw
           case rel=>exact ⟨j,by omega,DownI.pred j,t,HO4.out,HBo.out,HM.out⟩
           case measure=>simp [intOf]
theorem heap5 {w1:World} {g h:Nat} {z0 z1 z2 z3 y:Value} (hg:w1.heap[g]?=some (.cells #[z0,z1,z2,z3] 43 (0,0))) (hh:w1.heap[h]?=some (.cells #[y] 44 (0,0))) (hne:g ≠ h) (x0 x1 x2 x3 u:Value) :
 (((((w1.setCell ⟨g,0,none⟩ x0).setCell ⟨g,1,none⟩ x1).setCell ⟨g,2,none⟩ x2).setCell ⟨g,3,none⟩ x3).setCell ⟨h,0,none⟩ u).heap[g]?=some (.cells #[x0,x1,x2,x3] 43 (0,0)) ∧
 (((((w1.setCell ⟨g,0,none⟩ x0).setCell ⟨g,1,none⟩ x1).setCell ⟨g,2,none⟩ x2).setCell ⟨g,3,none⟩ x3).setCell ⟨h,0,none⟩ u).heap[h]?=some (.cells #[u] 44 (0,0)):=by
 have hg':=heap_box hg x0 x1 x2 x3
 have hh':((((w1.setCell ⟨g,0,none⟩ x0).setCell ⟨g,1,none⟩ x1).setCell ⟨g,2,none⟩ x2).setCell ⟨g,3,none⟩ x3).heap[h]?=some (.cells #[y] 44 (0,0)):=by
  rw [heap_setCell_other _ ⟨g,3,none⟩ h x3 hne.symm,heap_setCell_other _ ⟨g,2,none⟩ h x2 hne.symm,heap_setCell_other _ ⟨g,1,none⟩ h x1 hne.symm,heap_setCell_other _ ⟨g,0,none⟩ h x0 hne.symm,hh]
 refine ⟨?_,heap_setCell_same _ h 0 _ _ u hh'⟩
 rw [heap_setCell_other _ ⟨h,0,none⟩ g u hne]
 exact hg'
theorem catch_refused (g h:Nat) (z0 z1 z2 z3 y:Value) (er:Int) (older:List PanicEntry) (w:World) (hg:w.heap[g]?=some (.cells #[z0,z1,z2,z3] 43 (0,0))) (hh:w.heap[h]?=some (.cells #[y] 44 (0,0))) (hne:g ≠ h) :
 CallsD Tryz.prog 28 #[.pointer (some ⟨g,0,none⟩),.pointer (some ⟨h,0,none⟩)] (.panicking ({ v:=.iface 75 (.int .i64 er),recovered:=false } :: older)) w fun e u' w' =>
  e=.returned (.tuple #[])∧u'=.panicking ({ v:=.iface 75 (.int .i64 er),recovered:=true } :: older) ∧
  w'=((((w.setCell ⟨g,0,none⟩ (.int .i64 0)).setCell ⟨g,1,none⟩ (.int .i64 0)).setCell ⟨g,2,none⟩ (.string ByteArray.empty)).setCell ⟨g,3,none⟩ (.slice none 0 0)).setCell ⟨h,0,none⟩ (.int .i64 er):=by
 obtain ⟨c0,c1,c2,c3,f0,f1,f2,f3⟩:=box4 hg
 have d0:=cell_of_row w h 0 _ _ _ hh
 have e0:=frozen_of_row w h 0 _ _ hh
 simp only [List.getElem?_toArray,List.getElem?_cons_zero] at d0
 refine callsD_of_wpS Tryz.func28 rfl fun c₀ cs hu=>?_
 apply wpS_seq
 apply wpS_region
 simp [wpOpsS,go_sem,recoverD,hu,Tryz.ntmps28,Exit.thenS]
 refine wpS_of_wp ?_
 rw [show (#[Value.pointer (some ⟨g,0,none⟩),Value.pointer (some ⟨h,0,none⟩)]++((Array.replicate 16 undef).setIfInBounds 3 (Value.iface 75 (Value.int IntKind.i64 er))).setIfInBounds 0 (Value.iface 75 (Value.int IntKind.i64 er)):Array Value)=#[.pointer (some ⟨g,0,none⟩),.pointer (some ⟨h,0,none⟩),.iface 75 (.int .i64 er),undef,undef,.iface 75 (.int .i64 er),undef,undef,undef,undef,undef,undef,undef,undef,undef,undef,undef,undef] from rfl]
 have hta:(Instr.typeAssert (.iface 75 (.int .i64 er)) 20 75 true).run Tryz.prog w=.ok (.tuple #[.int .i64 er,.bool true]) w:=by kernel_rfl
 go_wp2
 simp [bodyPostS,results,Tryz.results28]
 rfl
theorem catch_idle (g h:Nat) (w:World) :
 CallsD Tryz.prog 28 #[.pointer (some ⟨g,0,none⟩),.pointer (some ⟨h,0,none⟩)] .returning w fun e u' w'=>e=.returned (.tuple #[])∧u'=.returning∧w'=w:=by
 refine callsD_of_wpS Tryz.func28 rfl fun c₀ cs hu=>?_
 apply wpS_seq
 apply wpS_region
 simp [wpOpsS,go_sem,recoverD,hu,Tryz.ntmps28,Exit.thenS]
 refine wpS_of_wp ?_
 rw [show (#[Value.pointer (some ⟨g,0,none⟩),Value.pointer (some ⟨h,0,none⟩)]++((Array.replicate 16 undef).setIfInBounds 3 Value.nilIface).setIfInBounds 0 Value.nilIface:Array Value)=#[.pointer (some ⟨g,0,none⟩),.pointer (some ⟨h,0,none⟩),.nilIface,undef,undef,.nilIface,undef,undef,undef,undef,undef,undef,undef,undef,undef,undef,undef,undef] from rfl]
 go_wp2
 cases c₀
 simp_all [bodyPostS,results,Tryz.results28]
theorem res23 (tmps:Array Value) (w:World) (g h:Nat) (x0 x1 x2 x3 u:Value) (hg:w.heap[g]?=some (.cells #[x0,x1,x2,x3] 43 (0,0))) (hh:w.heap[h]?=some (.cells #[u] 44 (0,0))) (h6:tmps[6]?=some (.pointer (some ⟨g,0,none⟩))) (h7:tmps[7]?=some (.pointer (some ⟨h,0,none⟩))) :
 (results Tryz.f10 tmps).run Tryz.prog w=.ok (.tuple #[.agg #[x0,x1,x2,x3],u]) w:=by
 obtain ⟨c0,c1,c2,c3,-⟩:=box4 hg
 have d0:=cell_of_row w h 0 _ _ _ hh
 simp only [List.getElem?_toArray,List.getElem?_cons_zero] at d0
 simp [results,Tryz.results10,go_sem,h6,h7,c0,c1,c2,c3,d0]
theorem goodN_mono {ns:List Nd}:∀ {d:Nat} {r:Int},goodN ns d r→goodN ns (d+1) r
 | 0,_,h=>h.elim
 | d+1,r,h=>by
   obtain ⟨h0,nd,hnd,hr,hl,hk⟩:=h
   exact ⟨h0,nd,hnd,hr,hl,fun k hkk=>goodN_mono (hk k hkk)⟩
theorem goodN_le {ns:List Nd} {d e:Nat} {r:Int} (h:goodN ns d r) (hde:d≤e):goodN ns e r:=by
 induction hde with
 | refl=>exact h
 | step _ ih=>exact goodN_mono ih
theorem getD_set {s:List Bool} {j k:Nat} (h:s.getD j false=true):(s.set k true).getD j false=true:=by
 rw [List.getD_eq_getElem?_getD] at *
 rw [List.getElem?_set]
 split
 · split
   · rfl
   · rename_i h1 h2
     subst h1
     rw [List.getElem?_eq_none (by omega)] at h
     exact h
 · exact h
theorem kidsF_marks {i:Nat}:∀ (l:List Int) (s s':List Bool),i≤s.length→kidsF i s l=some s'→(∀ j,s.getD j false=true→s'.getD j false=true)∧∀ k ∈ l,0≤k∧k < (i:Int)∧s'.getD k.toNat false=true
 | [],s,s',_,h=>by
   simp only [kidsF,Option.some.injEq] at h
   subst h
   exact ⟨fun j h=>h,fun k hk=>by cases hk⟩
 | k :: t,s,s',hs,h=>by
   simp only [kidsF] at h
   split at h
   · cases h
   · rename_i h1
     split at h
     · cases h
     · obtain ⟨h2,h3⟩:=kidsF_marks t (s.set k.toNat true) s' (by simpa using hs) h
       refine ⟨fun j hj=>h2 j (getD_set hj),fun x hx=>?_⟩
       rcases List.mem_cons.1 hx with rfl | hx
       · refine ⟨by omega,by omega,h2 _ ?_⟩
         rw [List.getD_eq_getElem?_getD,List.getElem?_set,if_pos rfl,if_pos (by omega)]
         rfl
       · exact h3 x hx
theorem treeG_good (ns:List Nd):∀ (k:Nat),(∀ (i:Nat) (nd:Nd),i < k→ns[i]?=some nd→nd.kl≤1000000)→∀ (s:List Bool),k≤s.length→treeG ns k s=true→∀ i,i < k→s.getD i false=true→goodN ns (i+1) i
 | 0,_,_,_,_,i,hi,_=>by omega
 | k+1,hsm,s,hs,h,i,hi,hm=>by
   have hsm':∀ (i:Nat) (nd:Nd),i < k→ns[i]?=some nd→nd.kl≤1000000:=fun i nd hi=>hsm i nd (by omega)
   simp only [treeG] at h
   by_cases hk:s.getD k false=true
   · rw [if_pos hk] at h
     split at h
     · cases h
     · rename_i nd hnd
       split at h
       · rename_i hr
         split at h
         · cases h
         · rename_i s' hf
           obtain ⟨h1,h2⟩:=kidsF_marks nd.ks s s' (by omega) hf
           have hs':k≤s'.length:=by rw [kidsF_len k nd.ks s s' hf];omega
           have ih:=treeG_good ns k hsm' s' hs' h
           by_cases hik:i=k
           · subst hik
             refine ⟨by omega,nd,by simpa using hnd,hr,hsm i nd (by omega) hnd,fun x hx=>?_⟩
             obtain ⟨x0,x1,x2⟩:=h2 x hx
             have:=ih x.toNat (by omega) x2
             rw [Int.toNat_of_nonneg x0] at this
             exact goodN_le this (by omega)
           · exact ih i (by omega) (h1 i hm)
       · cases h
   · rw [if_neg hk] at h
     have hik:i ≠ k:=fun e=>by subst e;exact hk hm
     exact treeG_good ns k hsm' s (by omega) h i (by omega) hm
theorem treeR_good {ns:List Nd} {q:Nat} (hsm:∀ (i:Nat) (nd:Nd),i < q+1→ns[i]?=some nd→nd.kl≤1000000) (h:treeR ns q=true):goodN ns (q+1) q :=
 treeG_good ns (q+1) hsm _ (by simp) h q (by omega) (by
  rw [List.getD_eq_getElem?_getD,List.getElem?_set,if_pos rfl,if_pos (by simp)]
  rfl)
/-- What the expression with this root is worth. -/
def worthR (ns:List Nd) (r:Int) (v:Vw):Wr :=
 if r < 0∨(ns.length:Int)≤r then .error 1 else if treeR ns r.toNat=true then wK ns v (r.toNat+1) r else .error 8
/-- A worth, or a refusal, told in two results. -/
def WRet (e:Ending) (w':World) (B:Nat) (r:Wr):Prop:=match r with
 | .ok x=>∃ v,e=.returned (.tuple #[v,.int .i64 0])∧SO w' B v x
 | .error er=>e=.returned (.tuple #[VA v0 none 0 0,.int .i64 er])
theorem WRet.cases {e:Ending} {w':World} {B:Nat} {r:Wr} (h:WRet e w' B r):(∃ x a l c,r=.ok x∧e=.returned (.tuple #[VA x a l c,.int .i64 0])∧SV w' B (VA x a l c) x)∨(∃ er,r=.error er∧e=.returned (.tuple #[VA v0 none 0 0,.int .i64 er])):=by
 cases r with
 | ok x =>
   obtain ⟨v,rfl,hs⟩:=h
   obtain ⟨a,l,c,rfl,h2⟩:=id hs
   exact .inl ⟨x,a,l,c,rfl,rfl,hs.sv⟩
 | error er=>exact .inr ⟨er,rfl,h⟩
theorem WRet.err {w':World} {B:Nat} {r:Wr} {er:Int} (h:r=.error er):WRet (.returned (.tuple #[VA v0 none 0 0,.int .i64 er])) w' B r:=by subst h;exact rfl
theorem WRet.ok {w':World} {B:Nat} {r:Wr} {x:Vl} {v:Value} (h:r=.ok x) (hs:SO w' B v x):WRet (.returned (.tuple #[v,.int .i64 0])) w' B r:=by subst h;exact ⟨_,rfl,hs⟩
theorem below_box5 {B g h:Nat} {w w1:World} (hg:B≤g) (hh:B≤h) (hb:Below B w w1) (x0 x1 x2 x3 u:Value):Below B w (((((w1.setCell ⟨g,0,none⟩ x0).setCell ⟨g,1,none⟩ x1).setCell ⟨g,2,none⟩ x2).setCell ⟨g,3,none⟩ x3).setCell ⟨h,0,none⟩ u) :=
 (below_box hg hb x0 x1 x2 x3).setCell (p:=⟨h,0,none⟩) (by show B≤h;exact hh) u
/-- What a fresh variable of a number holds. -/
abbrev boxE:Obj:=.cells #[.int .i64 0] 44
theorem SO.cell1 {w:World} {B g:Nat} {v:Value} {x:Vl} (h:SO w B v x) (hg:g < B) (u:Value):SO (w.setCell ⟨g,0,none⟩ u) B v x:=by
 obtain ⟨a,l,c,rfl,hl,h⟩:=h
 exact ⟨a,l,c,rfl,hl,ownsRow_setCell_other h (fun e=>by have:=(h.lt g e).1;omega) _⟩
end Go.Proofs.YtcnckjlmldnblaaGreatDoor
