import Derived.Test.YtgkehahklccacaaGreatDoorC38
import Derived.Test.YtgkehahklccacaaGreatDoorCL6
import Derived.Deep.RegionWith
import Derived.WideKeyEntry
import Derived.Test.YtgkehahklccacaaGreatDoorC27
import Derived.Test.YtgkehahklccacaaGreatDoorC25
namespace Go.Proofs.YtgkehahklccacaaGreatDoor
open Go Go.RowKit
open Go.Lib (hid)
set_option maxRecDepth 100000
set_option maxHeartbeats 1000000
set_option linter.unusedVariables false
set_option linter.unusedSimpArgs false
section
open Go Go.RowKit Go.Shelf Go.Lib Go.Sort
open Go.Maps Go.WideMaps Go.ChangeMaps
theorem entry_own {w:World} {b n:Nat} {D:DataW Unit} (h:w.ownsMap Tryz.prog 9 ptrR b n D) (hn:n < maxLen) {s:ByteArray} (hs:s.size≤maxLen) :
 ∃ (v0:Value) (st:Value) (w1:World),(Instr.mapEntry 47 (.map (some b)) (.string s)).run Tryz.prog w=.ok (.tuple #[v0,st]) w1∧w.grownBy w1 (some b) ∧
   ∀ (g:Nat) (w2:World),w2.heap[b]?=w1.heap[b]?→∃ w3,(Instr.entryStore 47 (.map (some b)) st (.pointer (some ⟨g,0,none⟩))).run Tryz.prog w2=.ok () w3∧w3.ownsMap Tryz.prog 9 ptrR b (n+1) (D.put (kL s) (.lit (.int .i64 g)))∧w2.grownBy w3 (some b):=by
 have hup:=fun g:Nat=>h.update law9 Tryz.underlying47 hn (key9 hs) (show ptrR (.pointer (some ⟨g,0,none⟩))=some (.lit (.int .i64 g),[]) from rfl)
 obtain ⟨es,clock,hb,F,hz,hD⟩:=h
 obtain ⟨v0,st,es1,clock1,hrun,-,hst⟩:=WideElems.entry_then_store (string_law Tryz.underlying9) Tryz.underlying47 zero57 hb F (key9 hs)
 have hlt:b < w.heap.size:=(Array.getElem?_eq_some_iff.1 hb).1
 refine ⟨v0,_,_,hrun,⟨rfl,rfl,rfl,by simp [setBlock],fun i _ hi=>heap_setBlock_other hb _ (fun e=>hi (by rw [e]))⟩,fun g w2 hw2=>?_⟩
 rw [heap_setBlock_same hb] at hw2
 obtain ⟨es',clock',hr2,hr3⟩:=hst w2 (.pointer (some ⟨g,0,none⟩)) hw2
 refine ⟨_,hr2,?_,⟨rfl,rfl,rfl,by simp [setBlock],fun i _ hi=>heap_setBlock_other hw2 _ (fun e=>hi (by rw [e]))⟩⟩
 obtain ⟨w',hr4,⟨es4,ck4,hm4,hrest⟩,-⟩:=hup g
 rw [hr3] at hr4
 cases hr4
 rw [heap_setBlock_same hb] at hm4
 exact ⟨es4,ck4,(heap_setBlock_same hw2 _).trans hm4,hrest⟩
theorem DAt.fsafeTo {w w4:World} {L:Lay} {gd i:Nat} {d:Dm} (h:DAt w L gd d) (hi:i < d.fs.length) (hb:Below w.heap.size w w4) {v':Value} {x:List UInt8} (ho:w4.ownsRow w.heap.size 5 1 v' x.length (x.map b8)) :
 ∃ ρ',DAt (w4.setCell ⟨L.fa i,2,none⟩ v') { L with ρ:=ρ' } gd (d.setF i ⟨(d.file i).now,x,(d.file i).loose⟩)∧Upd L.ρ ρ' w (w4.setCell ⟨L.fa i,2,none⟩ v'):=by
 obtain ⟨vn,vs,vl,hf⟩:=h.at hi
 have hgl:=hf.lt
 have hgr:7+4 * i≤L.ρ (L.fa i)∧L.ρ (L.fa i)≤10+4 * i:=by rw [hf.lg];omega
 have ho4:Only L.ρ (fun r=>7+4 * i≤r∧r≤10+4 * i) w (w4.setCell ⟨L.fa i,2,none⟩ v'):=(Only.of_below hb).trans (Only.setCell w4 (L.fa i) 2 _ hgr)
 have hO:(w4.setCell ⟨L.fa i,2,none⟩ v').ownsRow w.heap.size 5 1 v' x.length (x.map b8):=own_same ho (fun k hk=>heap_setCell_other w4 ⟨L.fa i,2,none⟩ k _ (by show k ≠ L.fa i;have:=(ho.lt k hk).1;omega))
 obtain ⟨ρ',he,hd,hl⟩:=put_new h.dom hO ho4.size (9+4 * i)
 have hx:w4.heap[L.fa i]?=some (boxFile i vn vs vl):=(hb.block _ hgl).trans hf.box
 have hkk:∀ k,L.ρ k ≠ 0→L.ρ k ≠ 7+4 * i→(w4.setCell ⟨L.fa i,2,none⟩ v').heap[k]?=w.heap[k]?:=fun k h0 h1=>(heap_setCell_other w4 ⟨L.fa i,2,none⟩ k _ (fun e=>h1 (by have e2:k=L.fa i:=e;rw [e2];exact hf.lg))).trans (hb.block k (h.dom k h0))
 refine ⟨ρ',h.file1 hi ho4 he hd (f:=⟨(d.file i).now,x,(d.file i).loose⟩) (vn:=vn) (vs:=v') (vl:=vl) ⟨heap_setCell_same w4 (L.fa i) 2 _ _ _ hx,(he.same _ (by rw [hf.lg];omega)).trans hf.lg,hf.now.keep (fun k e=>hkk k (by omega) (by omega)) (fun k e=>(he.same k (by omega)).trans e),⟨own_base hO,hl⟩,hf.loose.keep (fun k e=>hkk k (by omega) (by omega)) (fun k e=>he.same k (by omega))⟩,Upd.of_only ho4 (by omega) he⟩
theorem DAt.fnowTo {w w4:World} {L:Lay} {gd i:Nat} {d:Dm} (h:DAt w L gd d) (hi:i < d.fs.length) (hb:Below w.heap.size w w4) {v':Value} {x:List UInt8} (ho:w4.ownsRow w.heap.size 5 1 v' x.length (x.map b8)) :
 ∃ ρ',DAt (w4.setCell ⟨L.fa i,1,none⟩ v') { L with ρ:=ρ' } gd (d.setF i ⟨x,(d.file i).safe,(d.file i).loose⟩)∧Upd L.ρ ρ' w (w4.setCell ⟨L.fa i,1,none⟩ v'):=by
 obtain ⟨vn,vs,vl,hf⟩:=h.at hi
 have hgl:=hf.lt
 have hgr:7+4 * i≤L.ρ (L.fa i)∧L.ρ (L.fa i)≤10+4 * i:=by rw [hf.lg];omega
 have ho4:Only L.ρ (fun r=>7+4 * i≤r∧r≤10+4 * i) w (w4.setCell ⟨L.fa i,1,none⟩ v'):=(Only.of_below hb).trans (Only.setCell w4 (L.fa i) 1 _ hgr)
 have hO:(w4.setCell ⟨L.fa i,1,none⟩ v').ownsRow w.heap.size 5 1 v' x.length (x.map b8):=own_same ho (fun k hk=>heap_setCell_other w4 ⟨L.fa i,1,none⟩ k _ (by show k ≠ L.fa i;have:=(ho.lt k hk).1;omega))
 obtain ⟨ρ',he,hd,hl⟩:=put_new h.dom hO ho4.size (8+4 * i)
 have hx:w4.heap[L.fa i]?=some (boxFile i vn vs vl):=(hb.block _ hgl).trans hf.box
 have hkk:∀ k,L.ρ k ≠ 0→L.ρ k ≠ 7+4 * i→(w4.setCell ⟨L.fa i,1,none⟩ v').heap[k]?=w.heap[k]?:=fun k h0 h1=>(heap_setCell_other w4 ⟨L.fa i,1,none⟩ k _ (fun e=>h1 (by have e2:k=L.fa i:=e;rw [e2];exact hf.lg))).trans (hb.block k (h.dom k h0))
 refine ⟨ρ',h.file1 hi ho4 he hd (f:=⟨x,(d.file i).safe,(d.file i).loose⟩) (vn:=v') (vs:=vs) (vl:=vl) ⟨heap_setCell_same w4 (L.fa i) 1 _ _ _ hx,(he.same _ (by rw [hf.lg];omega)).trans hf.lg,⟨own_base hO,hl⟩,hf.safe.keep (fun k e=>hkk k (by omega) (by omega)) (fun k e=>(he.same k (by omega)).trans e),hf.loose.keep (fun k e=>hkk k (by omega) (by omega)) (fun k e=>he.same k (by omega))⟩,Upd.of_only ho4 (by omega) he⟩
theorem Upd.of_grown {ρ:Nat→Nat} {w w':World} {b:Nat} (hg:w.grownBy w' (some b)) (hb:ρ b ≠ 0):Upd ρ ρ w w' :=
 ⟨hg.os,hg.tape,hg.output,hg.size,fun k hk h0=>hg.block k hk (fun e=>hb (by rw [← Option.some.inj e];exact h0)),Ext.refl _ _⟩
theorem DAt.lay {w:World} {L:Lay} {gd:Nat} {d:Dm} (h:DAt w L gd d) (hn:d.names.length < maxLen) (hn2:d.safe.length < maxLen) {s:Nm} (hs:s.length≤maxLen) (i:Nat) :
 ∃ (v0 st v1 st1:Value) (w1 w2 w3 w4:World),(Instr.mapEntry 47 (.map (some L.nb)) (.string (bs s))).run Tryz.prog w=.ok (.tuple #[v0,st]) w1 ∧
   (Instr.entryStore 47 (.map (some L.nb)) st (.pointer (some ⟨L.fa i,0,none⟩))).run Tryz.prog w1=.ok () w2 ∧
   (Instr.mapEntry 47 (.map (some L.sb)) (.string (bs s))).run Tryz.prog w2=.ok (.tuple #[v1,st1]) w3 ∧
   (Instr.entryStore 47 (.map (some L.sb)) st1 (.pointer (some ⟨L.fa i,0,none⟩))).run Tryz.prog w3=.ok () w4 ∧
   DAt w4 L gd { d with names:=ins d.names s i,safe:=ins d.safe s i }∧Upd L.ρ L.ρ w w4:=by
 obtain ⟨D,hm,hρ,hz,hl⟩:=h.nm
 have hs':(bs s).size≤maxLen:=hs
 obtain ⟨v0,st,w1,r1,g1,k1⟩:=entry_own hm hn hs'
 obtain ⟨w2,r2,m2,g2⟩:=k1 (L.fa i) w1 rfl
 have g12:=grown_trans g1 g2
 have hN2:NAt w2 L.ρ 2 L.fa L.nb (ins d.names s i):=NAt.put (hm.tidy law9) hρ hz hl m2
 obtain ⟨hd2,hu2⟩:=h.names1 g12 hN2
 obtain ⟨D2,hm2,hρ2,hz2,hl2⟩:=hd2.sf
 obtain ⟨v1,st1,w3,r3,g3,k3⟩:=entry_own hm2 hn2 hs'
 obtain ⟨w4,r4,m4,g4⟩:=k3 (L.fa i) w3 rfl
 have g34:=grown_trans g3 g4
 have hN4:NAt w4 L.ρ 3 L.fa L.sb (ins d.safe s i):=NAt.put (hm2.tidy law9) hρ2 hz2 hl2 m4
 have hd4:=hd2.safeTo g34 hN4
 exact ⟨v0,st,v1,st1,w1,w2,w3,w4,r1,r2,r3,r4,hd4,hu2.trans (Upd.of_grown g34 (by rw [hρ2];omega))⟩
theorem fits_any (w:World) (B b:Nat) (l:List (Nm × List UInt8)) (hK:KAt w B b l) (hleg:∀ s x,lk l s=some x→legalB (bs s)=true∧x.length≤10000000) (hlen:l.length≤4096) :
 Calls Tryz.prog 85 #[.map (some b),.int .i64 1099511627776] w fun e w'=>e=.returned (.int .i64 0)∧Below w.heap.size w w':=by
 obtain ⟨hB,D,hm,hz,hl⟩:=hK
 obtain ⟨N,hN⟩:∃ N,N=l.length:=⟨_,rfl⟩
 rw [← hN] at hm hz hlen
 have hsz:=hm.size_le
 have HL:=hid hl
 have HLG:=hid hleg
 have HM:=hid hm
 have hln:∀ (w':World) ty,w'.ownsMap Tryz.prog 9 sliceR b N D→(Builtin.len_ #[55] ty #[.map (some b)]).run Tryz.prog w'=.ok (.int .i64 (Maps.size D)) w':=fun w' ty hm=>hm.len Tryz.underlying55 ty
 have HLN:=hid hln
 have HZ:=hid hz
 clear hl hleg hN hln
 go_enter Tryz.func85,Tryz.ntmps85
 go_wp2_with (first
  | (at_range;refine wpList_range_own _ rfl _ 55 rfl 9 53 law9 Tryz.underlying55 _ b N D rfl hm ?_;intro w0 hrg0 hg0 hs0)
  | go_in)
 go_frame
 have hb0:Below w.heap.size w w0:=⟨hg0.os,hg0.tape,hg0.output,hg0.size,fun k hk=>hg0.block k hk (by simp)⟩
 clear hm hg0 hs0
 go_loopw [5,6] (fun u bg wr=>∃ (left:Lit→Bool) (cnt:Nat) (x:Nat),u=.int .i64 x∧bg=.bool false∧wr.ranges Tryz.prog 9 sliceR b w.heap.size N D left cnt∧x+cnt * 10000000≤4096 * 10000000 ∧
  Hid (∀ kl,left kl=true→has D kl=true)∧Hid (Below w.heap.size w wr))
  (fun _ _ wr=>wr.rangeLeft b w.heap.size)
 case atStart =>
  exact ⟨_,_,0,rfl,rfl,hrg0,by rw [HZ.out];omega,hid (fun _ h=>h),hid hb0⟩
 case round =>
  obtain ⟨left,cnt,x,rfl,rfl,hrg,hx0,HLF,HBL⟩:=hrel
  go_wp2_with (first
   | (at_next;refine wpList_next_ranges _ rfl _ rfl 9 law9 sliceR encStr encS (fun key kl hk=>by obtain ⟨x,hx,_⟩:=Maps.keyOf_str Tryz.underlying9 hk;exact ⟨x,hx⟩) (fun v y hv=>sliceR_inv hv) b w.heap.size N D left cnt rfl hrg ?_ ?_)
   | go_in)
  · intro hc0 hl0
    have hm:=hrg.owns
    have hln:=HLN.out wr 3 hm
    rw [HZ.out] at hln
    have hx1:x≤40960000000:=by omega
    clear hrg hl0 hx0 hm hz
    go_wp2_with fail
    go_ret
    exact ⟨rfl,HBL.out⟩
  · intro s cp kl yd yp w1 cnt1 hkey hlk hv hat hrg1 hlt hg1 hs1 hen
    obtain ⟨s',ex,rfl,hsl⟩:=Maps.keyOf_str Tryz.underlying9 hkey
    obtain rfl:s=s':=encStr_inj ex
    have hbl1:Below w.heap.size w w1:=HBL.out.trans ⟨hg1.os,hg1.tape,hg1.output,hg1.size,fun k hk=>hg1.block k (Nat.lt_of_lt_of_le hk HBL.out.size) (fun e=>by have:=Option.some.inj e;omega)⟩
    have hhas:has D (.string s)=true:=HLF.out _ hlk
    obtain ⟨hh,c,hc1,hc2,hc3⟩:=HL.out s
    obtain ⟨xs,hxs⟩:=Option.isSome_iff_exists.1 (hh.symm.trans hhas)
    have hcc:cp=c:=by
     have h1:scD cp=scD c:=by
      rw [sliceR_enc] at hv
      have h2:=hat .nil
      rw [hc1] at h2
      cases hv
      exact h2.symm
     exact scD_inj h1
    have hown:=hc3 xs hxs
    rw [← hcc] at hown
    obtain ⟨va,vc,hve,-⟩:=owns_shape hown
    obtain ⟨hlg,hxb⟩:=HLG.out s xs hxs
    obtain ⟨xl,hxl⟩:∃ xl,xl=xs.length:=⟨_,rfl⟩
    rw [← hxl] at hve hxb
    rw [hve] at hen ⊢
    have HM0:=hid (show wr.rangeLeft b w.heap.size=cnt from hrg.left_eq)
    have HM1:=hid (show w1.rangeLeft b w.heap.size=cnt1 from hrg1.left_eq)
    have HR1:=hid hrg1
    have HB1:=hid hbl1
    have HLA:=hid (legal_any w1 (bs s) hsl)
    rw [hlg] at HLA
    have hnb:¬ (2147483647:Int) < (xl:Int):=by omega
    clear hrg hrg1 hkey hv hat hlk hhas hg1 hs1 hh hc1 hc2 hc3 hxs hcc hown hve hlg hxl hbl1 ex hsl
    go_wp2_with (go_at_call 152;refine HLA.out.mono ?_;rintro e w' ⟨rfl,rfl⟩)
    go_roundw
    case rel =>
     refine ⟨_,cnt1,x+xl,by push_cast;rfl,by rw [decide_eq_false (by omega)],HR1.out,by omega,hid (fun kl hkl=>?_),HB1⟩
     simp only [Bool.and_eq_true] at hkl
     exact HLF.out kl hkl.1
    case measure=>rw [HM0.out,HM1.out];exact hlt
end
section
open Go Go.RowKit Go.Shelf Go.Lib Go.Sort
open Go.Maps Go.WideMaps Go.ChangeMaps
theorem KAt.keep {w w':World} {B b:Nat} {l:List (Nm × List UInt8)} (h:KAt w B b l) (hk:∀ k,B≤k→k < w.heap.size→w'.heap[k]?=w.heap[k]?):KAt w' B b l:=by
 obtain ⟨h0,D,⟨es,ck,hb,hr⟩,h2,h3⟩:=h
 refine ⟨h0,D,⟨es,ck,(hk b h0 (Array.getElem?_eq_some_iff.1 hb).1).trans hb,hr⟩,h2,fun s=>⟨(h3 s).1,?_⟩⟩
 obtain ⟨c,h4,h5,h6⟩:=(h3 s).2
 exact ⟨c,h4,h5,fun x hx=>own_same (h6 x hx) (fun k e=>hk k ((h6 x hx).lt k e).1 ((h6 x hx).lt k e).2)⟩
theorem KAt.look {w:World} {B b:Nat} {l:List (Nm × List UInt8)} (h:KAt w B b l) {s:Nm} {x:List UInt8} (hs:s.length≤maxLen) (hx:lk l s=some x) :
 ∃ a c,(Instr.lookup 55 (.map (some b)) (.string (bs s)) false).run Tryz.prog w=.ok (.slice a x.length c) w∧w.ownsRow B 5 1 (.slice a x.length c) x.length (x.map b8):=by
 obtain ⟨-,D,hm,-,h3⟩:=h
 obtain ⟨c,h4,-,h6⟩:=(h3 s).2
 obtain ⟨v,ps,hrun,hv⟩:=hm.lookup law9 Tryz.underlying55 (show (zeroValue 53).run Tryz.prog w=.ok (.slice Option.none 0 0) w from zero50 w) (zd:=.nil) (zp:=[]) rfl (key9 (s:=bs s) hs)
 have hown:=h6 x hx
 have he:v=encS c:=by
  obtain ⟨c',hc'⟩:=sliceR_inv hv
  rw [hc',sliceR_enc] at hv
  have h7:D.atKey (.string s) .nil=scD c':=by
   have:=congrArg (fun o=>o.map (·.1)) hv
   simpa using this.symm
  rw [h4] at h7
  rw [hc',scD_inj h7]
 obtain ⟨a,cc,hve,-⟩:=owns_shape hown
 refine ⟨a,cc,?_,by rw [← hve];exact hown⟩
 rw [← hve,← he]
 exact hrun
theorem set_snoc (fs:List Fl) (a b:Fl):(fs++[a]).set fs.length b=fs++[b]:=by
 rw [List.set_append_right _ _ (Nat.le_refl _),Nat.sub_self];rfl
theorem setF_last (d:Dm) (e f:Fl):({ d with fs:=d.fs++[e] }:Dm).setF d.fs.length f={ d with fs:=d.fs++[f] }:=by
 unfold Dm.setF
 dsimp only
 rw [set_snoc]
theorem file_last (d:Dm) (e:Fl):({ d with fs:=d.fs++[e] }:Dm).file d.fs.length=e:=by
 unfold Dm.file
 dsimp only
 rw [List.getElem?_append_right (Nat.le_refl _),Nat.sub_self];rfl
theorem imgD_refs (sp:Int) (l:List (Nm × List UInt8)) {ks:List Nm} (hn:ks.Nodup):Refs (imgD sp l ks):=by
 have h:=imaged sp l ks.length ks rfl hn
 exact ⟨fun s i e=>(h.at_ s i e).1,fun s i e=>by rw [h.sf] at e;exact (h.at_ s i e).1,fun c hc=>by rw [h.ch] at hc;cases hc⟩
theorem imgD_used (sp:Int) (l:List (Nm × List UInt8)) (hl:∀ s x,lk l s=some x→x.length≤10000000):∀ (n:Nat) (ks:List Nm),ks.length=n→∃ u:Nat,(imgD sp l ks).used=(u:Int)∧u≤n * 10000000∨4096 < n:=by
 intro n
 induction n with
 | zero =>
   intro ks hk
   obtain rfl:ks=[]:=List.eq_nil_of_length_eq_zero hk
   exact ⟨0,.inl ⟨rfl,Nat.zero_le _⟩⟩
 | succ n ih =>
   intro ks hk
   rcases List.eq_nil_or_concat ks with e | ⟨k0,s,e⟩
   · rw [e] at hk;cases hk
   · rw [List.concat_eq_append] at e
     subst e
     rw [List.length_append] at hk
     obtain ⟨u,hu | hu⟩:=ih k0 (by simpa using hk)
     · by_cases hb:4096 < n+1
       · exact ⟨0,.inr hb⟩
       · have hx:((lk l s).getD []).length≤10000000:=by
          cases e:lk l s with
          | none=>simp
          | some x=>exact hl s x e
         refine ⟨u+((lk l s).getD []).length,.inl ⟨?_,by omega⟩⟩
         rw [imgD_snoc]
         show wrap64 ((imgD sp l k0).used+_)=_
         rw [hu.1,wrap64_small (by omega) (by omega)];push_cast;rfl
     · exact ⟨0,.inr (by omega)⟩
theorem image_any (w:World) (B b:Nat) (l:List (Nm × List UInt8)) (hK:KAt w B b l) (hleg:∀ s x,lk l s=some x→legalB (bs s)=true∧x.length≤10000000) (hlen:l.length≤4096) (hnd:(keysOf l).Nodup) (ks:List Nm) (hks:ks=(keysOf l).mergeSort fun x y=>decide (x≤y)) :
 Calls Tryz.prog 34 #[.map (some b),.int .i64 1099511627776] w fun e w'=>Below w.heap.size w w'∧∃ L gd,e=.returned (.tuple #[.pointer (some ⟨gd,0,none⟩),.nilIface])∧DAt w' L gd (imgD 1099511627776 l ks)∧∀ k,k < w.heap.size→L.ρ k=0:=by
 have HK:=hid hK
 have HLG:=hid hleg
 have hlt:=hK.lt
 obtain ⟨-,D0,hm0,hz0,hl0⟩:=hK
 obtain ⟨N,hN⟩:∃ N,N=l.length:=⟨_,rfl⟩
 rw [← hN] at hm0 hz0 hlen
 have HM:=hid hm0
 have HZ:=hid (And.intro hz0 hl0)
 have HND:=hid hnd
 have HKS:=hid hks
 have HN:=hid hN
 clear hleg hm0 hz0 hl0 hnd hks hN
 go_enter Tryz.func34,Tryz.ntmps34
 go_upto_region 8 with (first
  | (go_at_call 10;refine (newdisk_any w 1099511627776 (by omega) (by omega)).mono ?_;rintro e w1 ⟨hb1,L1,gd,rfl,hd1,hl1⟩
     have HD1:=hid hd1
     have HL1:=hid hl1
     have HB1:=hid hb1
     clear hd1 hl1 hb1)
  | (go_at_call 85;refine (fits_any w1 B b l (HK.out.below HB1.out) HLG.out (by rw [← HN.out];exact hlen)).mono ?_;rintro e w2 ⟨rfl,hb2⟩
     have HB2:=hid hb2
     clear hb2)
  | (go_at_call 87;refine ((callsIn_wide (n:=5)).1 (Tryz.maps_Keys_37 _ _)).mono ?_;rintro e w3 ⟨rfl,rfl⟩)
  | (go_at_call 86;refine ((callsIn_wide (n:=5)).1 (Tryz.slices_Sorted_keys_36_37 b N D0 sliceR w2 (HM.out.kept (gwk (HB1.out.trans (HB2.out.mono HB1.out.size))) (by simp)) (by rw [HZ.out.1];unfold maxLen;omega) (by rw [HZ.out.1];omega))).mono ?_;rintro e w4 ⟨v,ss,rfl,hS,hrow,hnil,hb4⟩
     obtain ⟨hN,hnd,hmem,hle⟩:=str_facts HM.out
     have hperm:ss.Perm (keysOf l):=hS.trans ((List.perm_ext_iff_of_nodup hnd HND.out).2 fun x=>by rw [hmem,(HZ.out.2 x).1,lk_some])
     have hks:ss.mergeSort (fun x y=>decide (x≤y))=ks:=by rw [HKS.out];exact mergeSort_of_perm hperm
     rw [hks] at hrow
     have hss:ss.length=N:=by rw [hperm.length_eq,HN.out];simp [keysOf]
     rw [hss] at hrow
     obtain ⟨ra,rc,rfl,-⟩:=owns_shape hrow
     have HROW:=hid hrow
     have HB4:=hid (show Below w1.heap.size w1 w4 from (HB2.out.alloc (by have:=HB2.out.size;omega) _).trans (hb4.mono (by have:=HB2.out.size;simp;omega)))
     have HRB:=hid (show w1.heap.size≤(w2.alloc (.cells #[.map (some b)] 55)).heap.size from by have:=HB2.out.size;simp;omega)
     clear hN hnd hmem hle hS hrow hnil hb4 hperm hks hss))
 have HD4:=hid (HD1.out.below HB4.out)
 have hw1:w.heap.size≤w1.heap.size:=HB1.out.size
 have hw4:w1.heap.size≤w4.heap.size:=HB4.out.size
 go_loopw [33] (fun i wr=>∃ (k:Nat) (L:Lay),k≤N∧i=.int .i64 k∧Hid (DAt wr L gd (imgD 1099511627776 l (ks.take k)))∧Hid (Upd L1.ρ L.ρ w4 wr)) (fun i _=>N - (intOf i).toNat)
 case atStart=>exact ⟨0,L1,Nat.zero_le _,rfl,hid HD4.out,hid (Upd.refl _ _)⟩
 case round =>
  obtain ⟨k,L,hk,rfl,HD,HU⟩:=hrel
  have hksn:ks.Nodup:=by rw [HKS.out];exact (List.mergeSort_perm _ _).nodup_iff.2 HND.out
  have hksl:ks.length=N:=by rw [HKS.out,List.length_mergeSort,HN.out];simp [keysOf]
  by_cases hkl:k < N
  · obtain ⟨s,hs⟩:∃ s,ks[k]?=some s:=⟨ks[k]'(by omega),List.getElem?_eq_getElem _⟩
    have hsm:s ∈ keysOf l:=(List.mergeSort_perm _ _).mem_iff.1 (by rw [← HKS.out];exact List.mem_of_getElem? hs)
    obtain ⟨x,hx⟩:=lk_isSome hsm
    obtain ⟨hlg,hxl⟩:=HLG.out s x hx
    have hsl:s.length≤maxLen:=by have:=(legal_len hlg).1;unfold maxLen;omega
    have him:=imaged 1099511627776 l k (ks.take k) (by rw [List.length_take];omega) (hksn.sublist (List.take_sublist _ _))
    have hfl:(imgD 1099511627776 l (ks.take k)).fs.length=k:=by rw [him.len,List.length_take];omega
    have hrefs:=imgD_refs 1099511627776 l (hksn.sublist (List.take_sublist k _))
    obtain ⟨u,hu | hu⟩:=imgD_used 1099511627776 l (fun s x h=>(HLG.out s x h).2) k (ks.take k) (by rw [List.length_take];omega)
    rotate_left
    · exact absurd hu (by omega)
    obtain ⟨rb,cap,rs,hv,hrb,hrs,-,hat⟩:=row_block HROW.out (by omega)
    obtain ⟨hv1,-,hv3⟩:=Value.slice.inj hv
    subst hv1 hv3
    have hrl:=(Array.getElem?_eq_some_iff.1 hrs).1
    have hr0:L1.ρ rb=0:=HD1.out.new rb (by have:=HRB.out;omega)
    have hrs':wr.heap[rb]?=some (.cells rs 9 (0,0)):=(HU.out.block rb hrl hr0).trans hrs
    have hcell:wr.cell? ⟨rb,k,none⟩=some (.string (bs s)):=by rw [cell_of_row _ _ _ _ _ _ hrs'];exact hat k s hs
    have HS:=hid hs
    have HX:=hid hx
    have HIM:=hid him
    have HFL:=hid hfl
    have HRF:=hid hrefs
    have HUS:=hid hu
    have hkp:∀ (ρ:Nat→Nat) (w':World),Upd L1.ρ ρ w4 w'→KAt w' B b l:=fun ρ w' hu'=>HK.out.keep (fun j hj1 hj2=>(hu'.block j (by omega) (HL1.out j hj2)).trans ((HB4.out.block j (by omega)).trans (HB1.out.block j hj2)))
    have HKP:=hid hkp
    clear hs hsm hx hlg him hfl hrefs hu hrs hrs' hat hrb hkp
    have hub:u≤40960000000:=by have:=HUS.out.2;omega
    go_upto_region 11 with (first
     | (go_at_call 88;refine (file_any wr L gd _ HD.out HRF.out (by rw [HFL.out];omega)).mono ?_;rintro e w5 ⟨L5,rfl,hd5,hu5⟩
        have HD5:=hid hd5
        have HU5:=hid (HU.out.trans hu5)
        clear hd5 hu5 hcell))
    obtain ⟨d0,hd0⟩:∃ d0,d0=imgD 1099511627776 l (ks.take k):=⟨_,rfl⟩
    rw [← hd0] at HD5 HFL HUS HIM HRF HD ⊢
    have hfl:d0.fs.length=k:=HFL.out
    have hD5:=HD5.out
    have hkk:k < d0.fs.length+1:=by omega
    obtain ⟨g,hg⟩:∃ g,g=L5.fa d0.fs.length:=⟨_,rfl⟩
    rw [← hg]
    have hi5:d0.fs.length < ({ d0 with fs:=d0.fs++[⟨[],[],[]⟩] }:Dm).fs.length:=by show _ < (d0.fs++[_]).length;rw [List.length_append];simp
    obtain ⟨vn,vs,vl,hf5⟩:=hD5.at hi5
    obtain ⟨xa,xc,hlk,hxo⟩:=(HKP.out _ w5 HU5.out).look hsl HX.out
    obtain ⟨xl,hxl2⟩:∃ xl,xl=x.length:=⟨_,rfl⟩
    rw [← hxl2] at hlk hxo hxl
    have HCL:=hid (bclone_any w5 xa xl xc x (R8.of_owns hxo (by omega)) (by omega))
    have hbox5:=hf5.box
    rw [← hg] at hbox5
    have HBX:=hid hbox5
    have HG:=hid hg
    have HXL:=hid hxl2
    have HF5:=hid hf5
    have HFI:=hid (file_last d0 ⟨[],[],[]⟩)
    have HI5:=hid hi5
    have HD0:=hid hd0
    clear hD5 hf5 hbox5 hg hxl2 hxo hfl hi5 hd0
    go_upto_region 12 with (first
     | (go_at_call 54;refine HCL.out.mono ?_;rintro e w6 ⟨⟨a6,c6,rfl,ho6⟩,hb6⟩
        have hx6:=(hb6.block g (Array.getElem?_eq_some_iff.1 HBX.out).1).trans HBX.out
        have s2:=cell_of_row _ _ 2 _ _ _ hx6
        have f2:=frozen_of_row w6 g 2 _ _ hx6
        simp only [List.getElem?_toArray,List.getElem?_cons_zero,List.getElem?_cons_succ] at s2
        have HO6:=hid ho6
        have HB6:=hid hb6
        have HX6:=hid hx6
        clear ho6 hb6 hx6 hlk))
    obtain ⟨W7,hW7⟩:∃ W7,W7=w6.setCell ⟨g,2,none⟩ (.slice a6 xl c6):=⟨_,rfl⟩
    rw [← hW7]
    obtain ⟨ρ7,hd7,hu7⟩:=HD5.out.fsafeTo HI5.out HB6.out (v':=.slice a6 xl c6) (x:=x) (by rw [← HXL.out];exact HO6.out)
    rw [← HG.out,← hW7] at hd7 hu7
    rw [HFI.out,setF_last] at hd7
    have hx7:W7.heap[g]?=some (boxFile d0.fs.length vn (.slice a6 xl c6) vl):=by rw [hW7];exact heap_setCell_same w6 g 2 _ _ _ HX6.out
    have ho7:W7.ownsRow w5.heap.size 5 1 (.slice a6 xl c6) xl (x.map b8):=by
     rw [hW7]
     exact own_same HO6.out (fun j hj=>heap_setCell_other w6 ⟨g,2,none⟩ j _ (by show j ≠ g;have:=(HO6.out.lt j hj).1;have:=(Array.getElem?_eq_some_iff.1 HBX.out).1;omega))
    have t2:=cell_of_row _ _ 2 _ _ _ hx7
    simp only [List.getElem?_toArray,List.getElem?_cons_zero,List.getElem?_cons_succ] at t2
    have HCL7:=hid (bclone_any W7 a6 xl c6 x (R8.of_owns ho7 (by omega)) (by omega))
    have HD7:=hid hd7
    have HU7:=hid (HU5.out.trans hu7)
    have HX7:=hid hx7
    clear hd7 hu7 hx7 ho7 hW7 HX6 s2 f2 HCL
    go_upto_region 13 with (first
     | (go_at_call 54;refine HCL7.out.mono ?_;rintro e w8 ⟨⟨a8,c8,rfl,ho8⟩,hb8⟩
        have hx8:=(hb8.block g (Array.getElem?_eq_some_iff.1 HX7.out).1).trans HX7.out
        have s1:=cell_of_row _ _ 1 _ _ _ hx8
        have f1:=frozen_of_row w8 g 1 _ _ hx8
        simp only [List.getElem?_toArray,List.getElem?_cons_zero,List.getElem?_cons_succ] at s1
        have HO8:=hid ho8
        have HB8:=hid hb8
        have HX8:=hid hx8
        clear ho8 hb8 hx8 t2))
    obtain ⟨W9,hW9⟩:∃ W9,W9=w8.setCell ⟨g,1,none⟩ (.slice a8 xl c8):=⟨_,rfl⟩
    rw [← hW9]
    have hi7:d0.fs.length < ({ d0 with fs:=d0.fs++[⟨[],x,[]⟩] }:Dm).fs.length:=by show _ < (d0.fs++[_]).length;rw [List.length_append];simp
    obtain ⟨ρ9,hd9,hu9⟩:=HD7.out.fnowTo hi7 HB8.out (v':=.slice a8 xl c8) (x:=x) (by rw [← HXL.out];exact HO8.out)
    rw [show ({ L5 with ρ:=ρ7 }:Lay).fa d0.fs.length=g from HG.out.symm,← hW9] at hd9 hu9
    rw [file_last,setF_last] at hd9
    have hx9:W9.heap[g]?=some (boxFile d0.fs.length (.slice a8 xl c8) (.slice a6 xl c6) vl):=by rw [hW9];exact heap_setCell_same w8 g 1 _ _ _ HX8.out
    have HD9:=hid hd9
    have HU9:=hid (HU7.out.trans hu9)
    have HX9:=hid hx9
    clear hd9 hu9 hx9 hW9 HX8 s1 f1 HCL7 hi7 HX7 HB8 HO8 HB6 HO6
    have c6':=HD9.out.cells.2.2.2.2.2.2.1
    have c7':=HD9.out.cells.2.2.2.2.2.2.2.1
    have hnl:d0.names.length=k:=by
     have h1:=congrArg List.length HIM.out.keys
     rw [List.length_take] at h1
     have h2:(keysOf d0.names).length=d0.names.length:=by simp [keysOf]
     omega
    obtain ⟨v0,st,v1,st1,q1,q2,q3,q4,r1,r2,r3,r4,hd10,hu10⟩:=(HD9.out.below ((Below.refl W9.heap.size W9).drew)).lay (by show d0.names.length < maxLen;rw [hnl];unfold maxLen;omega) (by show d0.safe.length < maxLen;rw [HIM.out.sf,hnl];unfold maxLen;omega) hsl d0.fs.length
    rw [show ({ L5 with ρ:=ρ9 }:Lay).fa d0.fs.length=g from HG.out.symm] at r2 r4
    have HD10:=hid hd10
    have HU10:=hid (HU9.out.trans ((Upd.of_below ((Below.refl W9.heap.size W9).drew)).trans hu10))
    clear hd10 hu10 hnl
    dsimp only at r1 r2 r3 r4 c6' c7'
    go_region
    clear r1 r2 r3 r4 c6' c7'
    obtain ⟨vn',vs',vl',hf10⟩:=HD10.out.at (i:=d0.fs.length) (by show _ < (d0.fs++[_]).length;rw [List.length_append];simp)
    have hfx:({ d0 with fs:=d0.fs++[⟨x,x,[]⟩],names:=ins d0.names s d0.fs.length,safe:=ins d0.safe s d0.fs.length }:Dm).file d0.fs.length=⟨x,x,[]⟩:=by
     unfold Dm.file
     dsimp only
     rw [List.getElem?_append_right (Nat.le_refl _),Nat.sub_self];rfl
    rw [hfx] at hf10
    obtain ⟨na,nc,hvn',-⟩:=owns_shape hf10.now.1
    have n1:=hf10.cells.2.1
    rw [show ({ L5 with ρ:=ρ9 }:Lay).fa d0.fs.length=g from HG.out.symm,hvn',show (⟨x,x,[]⟩:Fl).now.length=xl from HXL.out.symm] at n1
    have z2:=HD10.out.cells.2.2.1
    have z2:q4.cell? ⟨gd,2,none⟩=some (.int .i64 (u:Int)):=by rw [z2];exact congrArg (fun v=>some (Value.int .i64 v)) HUS.out.1
    have zf:q4.frozen? ⟨gd,2,none⟩=false:=frozen_of_row q4 gd 2 _ _ HD10.out.g
    have cd2:q4.drew.cell? ⟨gd,2,none⟩=some (.int .i64 (u:Int)):=z2
    have fd2:q4.drew.frozen? ⟨gd,2,none⟩=false:=zf
    have cd1:q4.drew.cell? ⟨g,1,none⟩=some (.slice na xl nc):=n1
    clear hf10 hvn' hfx
    go_wp2_with fail
    go_region
    clear z2 zf cd2 fd2 cd1 n1
    have hd11:=(HD10.out.below ((Below.refl q4.heap.size q4).drew)).usedTo ((u:Int)+(xl:Int))
    have hu11:Upd ρ9 ρ9 q4 (q4.drew.setCell ⟨gd,2,none⟩ (.int .i64 ((u:Int)+(xl:Int)))):=(Upd.of_below ((Below.refl q4.heap.size q4).drew)).trans (Upd.of_only (S:=(·=1)) (Only.setCell _ gd 2 _ HD10.out.lg) (by omega) (Ext.refl _ _))
    have HD11:=hid hd11
    have HU11:=hid (HU10.out.trans hu11)
    clear hd11 hu11
    go_wp2_with fail
    go_roundw
    case rel =>
     refine ⟨k+1,{ L5 with ρ:=ρ9 },by omega,by push_cast;rfl,hid ?_,HU11⟩
     have h9:=HD11.out
     rw [List.take_add_one,HS.out]
     show DAt _ _ gd (imgD 1099511627776 l (ks.take k++[s]))
     rw [imgD_snoc,← HD0.out]
     unfold imgStep
     rw [HX.out]
     show DAt _ _ gd { d0 with fs:=d0.fs++[⟨x,x,[]⟩],names:=ins d0.names s d0.fs.length,safe:=ins d0.safe s d0.fs.length,used:=wrap64 (d0.used+((x.length:Nat):Int)) }
     rw [HUS.out.1,← HXL.out,wrap64_small (by omega) (by omega)]
     exact h9
    case measure=>simp [intOf];omega
  · obtain rfl:k=N:=by omega
    go_wp2_with fail
    go_returns
    have hb:=HU.out.below (B:=w.heap.size) (by omega) HL1.out
    refine ⟨HB1.out.trans ((HB4.out.mono hw1).trans hb),L,gd,rfl,?_,HU.out.low (by omega) HL1.out⟩
    have h9:=HD.out
    rw [List.take_of_length_le (by omega)] at h9
    exact h9
end
section
open Go.Maps Go.WideMaps Go.ChangeMaps
section
variable {TB : List UInt8} {N sp : Nat} {d : Dm}
def imgT (x:List UInt8):Dm:=⟨0,1099511627776,(x.length:Nat),0,true,[⟨x,x,[]⟩],[(tlN,0)],[(tlN,0)],[],[],[]⟩
theorem imgD_one (x:List UInt8) (hx:x.length≤1000000):imgD 1099511627776 [(tlN,x)] [tlN]=imgT x:=by
 have h1:lk [(tlN,x)] tlN=some x:=by simp [lk]
 have h2:wrap64 ((0:Int)+(x.length:Int))=(x.length:Int):=by rw [Int.zero_add];exact wrap64_small (by omega) (by omega)
 show imgStep [(tlN,x)] (Dm.new 1099511627776) tlN=_
 unfold imgStep imgT Dm.new
 simp only [h1,Option.getD_some,h2]
 rfl
end
section
variable {W w : World} {L : Lay} {τ : Nat → Nat} {gt gd : Nat} {d : Dm} {T : TT} {Y : TY} {wd : Int} {ls : List Dg} {n gl sp N : Nat}
end
end
end Go.Proofs.YtgkehahklccacaaGreatDoor
