import Derived.Test.YtgkehahklccacaaGreatDoorC16
import Derived.Test.YtgkehahklccacaaGreatDoorC09
import Derived.WideKeyPair
import Derived.DeepKeys4
import Derived.WideKeyEntry
import Derived.Maps.Own
import Derived.Maps.OwnSet
import Derived.Maps.Views
namespace Go.Proofs.YtgkehahklccacaaGreatDoor
open Go Go.RowKit
open Go.Lib (hid)
set_option maxRecDepth 100000
set_option maxHeartbeats 1000000
set_option linter.unusedVariables false
set_option linter.unusedSimpArgs false
section
open Go Go.RowKit Go.Shelf Go.Lib Go.Sort
open Go.Maps Go.WideMaps
abbrev Sc:=Option (Nat × Nat × Nat)
def encS:Sc→Value
 | none=>.slice none 0 0
 | some (g,n,c)=>.slice (some ⟨g,0,none⟩) n c
def scD:Sc→DataW Unit
 | none=>.nil
 | some (g,n,c)=>.agg [.lit (.int .i64 (g:Nat)),.lit (.int .i64 (n:Nat)),.lit (.int .i64 (c:Nat))]
def sliceR (v:Value):Option (DataW Unit × List MemPlace):=match v with
 | .slice none 0 0=>some (.nil,[])
 | .slice (some ⟨g,0,none⟩) n c=>some (.agg [.lit (.int .i64 (g:Nat)),.lit (.int .i64 (n:Nat)),.lit (.int .i64 (c:Nat))],[])
 | _=>none
theorem sliceR_enc (c:Sc):sliceR (encS c)=some (scD c,[]):=by
 cases c with
 | none=>rfl
 | some p=>rfl
theorem sliceR_inv {v:Value} {y:DataW Unit × List MemPlace} (h:sliceR v=some y):∃ c,v=encS c:=by
 unfold sliceR at h
 split at h
 · exact ⟨none,rfl⟩
 · exact ⟨some (_,_,_),rfl⟩
 · cases h
theorem scD_inj {a b:Sc} (h:scD a=scD b):a=b:=by
 cases a with
 | none=>cases b with
   | none=>rfl
   | some p=>cases h
 | some p =>
   cases b with
   | none=>cases h
   | some q =>
     obtain ⟨g,n,c⟩:=p
     obtain ⟨g',n',c'⟩:=q
     simp [scD] at h
     obtain ⟨h1,h2,h3⟩:=h
     rw [show g=g' by omega,show n=n' by omega,show c=c' by omega]
theorem own_enc {w:World} {B e s n:Nat} {v:Value} {xs:List Value} (h:w.ownsRow B e s v n xs):∃ c,v=encS c:=by
 rcases h.2 with ⟨h1,-⟩ | ⟨g,cap,cur,h1,-⟩
 · exact ⟨none,h1⟩
 · exact ⟨some (g,n,cap),h1⟩
theorem zero50 (w:World):(zeroValue 53).run Tryz.prog w=.ok (.slice none 0 0) w:=by kernel_rfl
def KAt (w:World) (B b:Nat) (l:List (Nm × List UInt8)):Prop:=B≤b∧∃ D:DataW Unit,w.ownsMap Tryz.prog 9 sliceR b l.length D∧size D=l.length ∧
 ∀ s:Nm,has D (.string s)=(lk l s).isSome∧∃ c:Sc,D.atKey (.string s) .nil=scD c∧(lk l s=none→c=none)∧∀ x,lk l s=some x→w.ownsRow B 5 1 (encS c) x.length (x.map b8)
theorem KAt.same {w:World} {B b:Nat} {l l':List (Nm × List UInt8)} (h:KAt w B b l) (hl:l.length=l'.length) (he:∀ s,lk l s=lk l' s):KAt w B b l':=by
 obtain ⟨h0,D,h1,h2,h3⟩:=h
 exact ⟨h0,D,by rw [← hl];exact h1,by rw [← hl];exact h2,fun s=>by rw [← he];exact h3 s⟩
theorem KAt.none (w:World) (b:Nat) (hb:b=w.heap.size):KAt (w.alloc (.map #[] 0)) w.heap.size b []:=by
 subst hb
 refine ⟨Nat.le_refl _,_,World.ownsMap_made w Tryz.prog 9 sliceR,rfl,fun s=>⟨rfl,Option.none,rfl,fun _=>rfl,fun x h=>by cases h⟩⟩
theorem KAt.below {w w':World} {B b:Nat} {l:List (Nm × List UInt8)} (h:KAt w B b l) (hb:Below w.heap.size w w'):KAt w' B b l:=by
 obtain ⟨h0,D,h1,h2,h3⟩:=h
 exact ⟨h0,D,h1.kept (gwk hb) (by simp),h2,fun s=>⟨(h3 s).1,by
  obtain ⟨c,h4,h5,h6⟩:=(h3 s).2
  exact ⟨c,h4,h5,fun x hx=>own_below (h6 x hx) hb⟩⟩⟩
theorem KAt.lt {w:World} {B b:Nat} {l:List (Nm × List UInt8)} (h:KAt w B b l):b < w.heap.size:=by
 obtain ⟨-,D,h1,-⟩:=h
 exact h1.lt
theorem KAt.map {w:World} {B b:Nat} {l:List (Nm × List UInt8)} (h:KAt w B b l):∃ D,w.ownsMap Tryz.prog 9 sliceR b l.length D∧∀ (s:Nm) (c:Sc) (x:List UInt8) (w':World),w.ownsRow B 5 1 (encS c) x.length (x.map b8)→w.grownBy w' (some b)→w'.ownsMap Tryz.prog 9 sliceR b (l.length+1) (D.put (.string s) (scD c))→KAt w' B b (ins l s x):=by
 obtain ⟨h0,D,h1,h2,h3⟩:=h
 refine ⟨D,h1,fun s c x w' ho hg hm=>?_⟩
 have ht:=h1.tidy law9
 have hmap:∃ o es ck,w.heap[b]?=some (.map es ck)∧o=es:=by
  obtain ⟨es,ck,hb,-⟩:=h1
  exact ⟨_,es,ck,hb,rfl⟩
 obtain ⟨-,es,ck,hbm,-⟩:=hmap
 have hkeep:∀ {v:Value} {n:Nat} {xs:List Value},w.ownsRow B 5 1 v n xs→w'.ownsRow B 5 1 v n xs:=fun {v n xs} hv=>own_same hv (fun k e=>by
  have hlt:=(hv.lt k e).2
  refine hg.block k hlt (fun e2=>?_)
  have e3:k=b:=Option.some.inj e2
  subst e3
  rcases hv.2 with ⟨h4,-⟩ | ⟨g,cap,cur,h4,-,h5,-⟩
  · rw [h4] at e;cases e
  · rw [h4] at e
    obtain rfl:g=k:=Option.some.inj e
    rw [hbm] at h5;cases h5)
 have hs:=size_put (k:=.string s) ht (scD c)
 have hsz:size (D.put (.string s) (scD c))=(ins l s x).length:=by
  rw [hs,(h3 s).1,len_ins,h2]
  by_cases h:s ∈ keysOf l
  · rw [if_pos (lk_some.2 h),if_pos h]
  · rw [if_neg (by rw [lk_none.2 h];simp),if_neg h]
 refine ⟨h0,_,by have:=ownsMap_tight hm;rwa [hsz] at this,hsz,fun t=>?_⟩
 rw [lk_ins]
 by_cases e:t=s
 · subst e
   rw [if_pos rfl]
   exact ⟨has_put_same ht.isMap (show WideAt.IsKeyLit (.string t) from trivial) _,c,atKey_put_same ht.isMap (show WideAt.IsKeyLit (.string t) from trivial) _ _,fun h=>(by cases h),fun y hy=>(by cases hy;exact hkeep ho)⟩
 · rw [if_neg e]
   obtain ⟨c',h4,h5,h6⟩:=(h3 t).2
   exact ⟨(has_put_other (fun h=>e (litS_inj h)) _).trans (h3 t).1,c',(atKey_put_other (fun h=>e (litS_inj h)) _ _).trans h4,h5,fun y hy=>hkeep (h6 y hy)⟩
theorem kept_any (w:World) (L:Lay) (gd:Nat) (d:Dm) (h:DAt w L gd d) (hp:Pre d) :
 Calls Tryz.prog 18 #[.pointer (some ⟨gd,0,none⟩)] w fun e w'=>Below w.heap.size w w'∧∃ b,e=.returned (.map (some b))∧KAt w' w.heap.size b d.kept:=by
 have hmm:=@run_makeMap Tryz.prog
 obtain ⟨D,hmo,hρ,hz,hl⟩:=h.sf
 have hgl:=h.lt
 obtain ⟨w1,hw1⟩:∃ w1,w1=w.alloc (.map #[] 0):=⟨_,rfl⟩
 have hb1:Below w.heap.size w w1:=by rw [hw1];exact bel1 _ _
 have hk1:KAt w1 w.heap.size w.heap.size []:=by rw [hw1];exact KAt.none w _ rfl
 have c7:=(h.below hb1).cells.2.2.2.2.2.2.2.1
 obtain ⟨mb,hmb⟩:∃ mb,mb=w.heap.size:=⟨_,rfl⟩
 rw [← hmb] at hk1
 have HMO:=hid hmo
 have HM1:=hid (hmo.kept (gwk hb1) (by simp))
 have HL:=hid (And.intro hz hl)
 have HD:=hid h
 have HP:=hid hp
 have HB1:=hid hb1
 have HK1:=hid (show KAt w1 mb mb [] by rw [hmb] at hk1 ⊢;exact hk1)
 have HMB:=hid hmb
 clear h hp hmo hρ hz hl hb1 hk1
 go_enter Tryz.func18,Tryz.ntmps18
 go_upto_region 2 with (fail)
 rw [← hw1,← hmb]
 clear hw1 hmb hmm
 go_wp2_with (first
  | (at_range;refine wpList_range_own _ rfl _ 47 rfl 9 109 law9 Tryz.underlying47 _ L.sb _ D rfl HM1.out ?_;intro w0 hrg0 hg0 hs0)
  | go_in)
 go_frame
 obtain ⟨it,hit⟩:∃ it,it=w1.heap.size:=⟨_,rfl⟩
 rw [← hit] at hrg0
 rw [← hit]
 have hnb:=HMB.out
 have hk0:KAt w0 mb mb []:=HK1.out.below ⟨hg0.os,hg0.tape,hg0.output,hg0.size,fun k hk=>hg0.block k hk (by simp)⟩
 have hb0:Below w.heap.size w w0:=HB1.out.trans ⟨hg0.os,hg0.tape,hg0.output,hg0.size,fun k hk=>hg0.block k (Nat.lt_of_lt_of_le hk HB1.out.size) (by simp)⟩
 have hmbs:mb ≠ L.sb:=by have:=HD.out.sf.lt.1;omega
 have hmbi:mb ≠ it:=by have:=HK1.out.lt;omega
 have hmw:w.heap.size≤mb:=by omega
 have hitw:w.heap.size≤it:=by rw [hit];exact HB1.out.size
 have HIT:=hid hit
 have HSZ:=hid (show size D≤4096 by rw [HL.out.1];exact HP.out.fewS)
 clear hg0 hs0 hit hnb
 go_loopw [4,5] (fun _ _ wr=>∃ (left:Lit→Bool) (cnt:Nat) (l:List (Nm × List UInt8)),wr.ranges Tryz.prog 9 ptrR L.sb it d.safe.length D left cnt∧l.length+cnt≤size D∧Collected D left (keysOf l)∧KAt wr mb mb l∧(∀ s x,lk l s=some x→∃ i,lk d.safe s=some i∧x=(d.file i).safe)∧Below w.heap.size w wr)
  (fun _ _ wr=>wr.rangeLeft L.sb it)
 case atStart=>exact ⟨_,_,[],hrg0,by simp,Collected.start D,hk0,fun s x h=>(by cases h),hb0⟩
 case round =>
  obtain ⟨left,cnt,l,hrg,hcs,hC,hK,hX,hbr⟩:=hrel
  have HCO:=hid hC
  have HK:=hid hK
  have HX:=hid hX
  have HBR:=hid hbr
  clear hC hK hX hbr
  go_wp2_with (first
   | (at_next;refine wpList_next_ranges _ rfl _ rfl 9 law9 ptrR encStr encP (fun key kl hk=>by obtain ⟨x,hx,_⟩:=Maps.keyOf_str Tryz.underlying9 hk;exact ⟨x,hx⟩) (fun v y hv=>encP_of hv) L.sb it d.safe.length D left cnt rfl hrg ?_ ?_)
   | go_in)
  · intro hc0 hl0
    have hperm:=HCO.out.perm HMO.out (string_keyed Tryz.underlying9) Tryz.underlying9 hl0
    obtain ⟨-,hnd,hmem,-⟩:=str_facts HMO.out
    have hp2:(keysOf l).Perm (keysOf d.safe):=hperm.trans ((List.perm_ext_iff_of_nodup hnd HP.out.ns).2 fun x=>by rw [hmem,(HL.out.2 x).2,lk_some])
    have HK2:=hid (show KAt wr mb mb d.kept by
     refine HK.out.same ?_ (fun s=>?_)
     · have h1:=hp2.length_eq
       unfold keysOf at h1
       rw [List.length_map,List.length_map] at h1
       unfold Dm.kept;rw [List.length_map];exact h1
     · have hk9:∀ (m:List (Nm × Nat)) s,lk (m.map fun p=>(p.1,(d.file p.2).safe)) s=(lk m s).map fun i=>(d.file i).safe:=fun m s=>by
        induction m with
        | nil=>rfl
        | cons p r ih =>
          obtain ⟨k,i⟩:=p
          simp only [List.map_cons,lk]
          split
          · rfl
          · exact ih
       unfold Dm.kept
       rw [hk9]
       cases e:lk l s with
       | none =>
         have h1:s ∉ keysOf d.safe:=fun h=>lk_none.1 e (hp2.mem_iff.2 h)
         rw [lk_none.2 h1];rfl
       | some x =>
         obtain ⟨i,h1,h2⟩:=HX.out s x e
         rw [h1,h2];rfl)
    clear hperm hnd hmem hp2 hc0 hl0 hrg
    go_wp2_with fail
    go_ret
    exact ⟨HBR.out,mb,rfl,by rw [← HMB.out];exact HK2.out⟩
  · intro x cp kl yd yp w2 cnt2 hkey hlk hv hat hrg2 hlt hg2 hs2 hen
    obtain ⟨x',ex,rfl,_⟩:=Maps.keyOf_str Tryz.underlying9 hkey
    obtain rfl:x=x':=encStr_inj ex
    obtain rfl:=ptrR_enc hv
    have hhas:has D (.string x)=true:=has_true_of_atKey hat
    obtain ⟨i,hi⟩:=Option.isSome_iff_exists.1 (((HL.out.2 x).2).symm.trans hhas)
    have hcp:cp=some (L.fa i):=by
     have h1:=(HL.out.2 x).1
     rw [hat,hi] at h1
     cases cp with
     | none=>simp [valD] at h1
     | some g=>simp [valD] at h1;rw [show g=L.fa i by omega]
    subst hcp
    have hep:encP (some (L.fa i))=.pointer (some ⟨L.fa i,0,none⟩):=rfl
    rw [hep] at hen
    have hb2:Below w.heap.size w w2:=HBR.out.trans ⟨hg2.os,hg2.tape,hg2.output,hg2.size,fun k hk=>hg2.block k (Nat.lt_of_lt_of_le hk HBR.out.size) (by intro e2;have h1:=Option.some.inj e2;omega)⟩
    have hk2:KAt w2 mb mb l:=by
     obtain ⟨h0,Dk,h1,h2,h3⟩:=HK.out
     refine ⟨h0,Dk,h1.kept hg2 (by simpa using hmbi),h2,fun s=>⟨(h3 s).1,?_⟩⟩
     obtain ⟨c,h4,h5,h6⟩:=(h3 s).2
     refine ⟨c,h4,h5,fun y hy=>own_same (h6 y hy) (fun k e=>hg2.block k ((h6 y hy).lt k e).2 (fun e2=>?_))⟩
     have e3:k=it:=Option.some.inj e2
     rw [e3] at e
     rcases (h6 y hy).2 with ⟨h7,-⟩ | ⟨g,cap,cur,h7,-,h8,-⟩
     · rw [h7] at e;cases e
     · rw [h7] at e
       obtain rfl:g=it:=Option.some.inj e
       have h9:=hrg.iter_walk
       obtain ⟨o,ho1,ho2⟩:=h9
       rw [h8] at ho1;cases ho1;cases ho2
    have hil:i < d.fs.length:=HP.out.refs.sf x i hi
    obtain ⟨vn,vs,vl,hf⟩:=(HD.out.below hb2).at hil
    obtain ⟨av,cv2,hvs,-⟩:=owns_shape hf.safe.1
    obtain ⟨nv,hnv⟩:∃ nv,nv=(d.file i).safe.length:=⟨_,rfl⟩
    rw [← hnv] at hvs
    have n2:=hf.cells.2.2.1
    rw [hvs] at n2
    have hnvb:nv≤2147483647:=by rw [hnv];exact (HP.out.file i).2.1
    have hr:R8 w2 av nv cv2 (d.file i).safe:=by have h9:=hf.safe.1;rw [hvs,← hnv] at h9;exact R8.of_owns h9 (by omega)
    have HCL:=hid (bclone_any w2 av nv cv2 (d.file i).safe hr (by omega))
    have HNV:=hid hnv
    have HI:=hid hi
    have HRG:=hid hrg2
    have HB2:=hid hb2
    have HK2:=hid hk2
    have HKEY:=hid hkey
    have HC2:=hid (HCO.out.step hlk hat)
    have HNEW:=hid (show x ∉ keysOf l from fun h=>by have:=((HCO.out.2 x).1 h).2;rw [hlk] at this;cases this)
    have HLC:=hid (show l.length+1+cnt2≤size D by omega)
    have hll:l.length≤4096:=by have:=HSZ.out;omega
    have HLT:=hid (show w2.rangeLeft L.sb it < wr.rangeLeft L.sb it from by rw [hrg2.left_eq,hrg.left_eq];exact hlt)
    rw [hep]
    clear hb2 hk2 hrg2 hg2 hs2 hvs hf hlk hat hv hkey hhas hi hlt hrg hep hnv ex hr
    go_wp2_with (first
     | (go_at_call 54;refine HCL.out.mono ?_;rintro e w4 ⟨⟨a4,c4,rfl,hv4⟩,hb4⟩
        obtain ⟨Dk,hmk,hput⟩:=(HK2.out.below hb4).map
        obtain ⟨sc,hsc⟩:=own_enc hv4
        have hval:sliceR (.slice a4 nv c4)=some (scD sc,[]):=by rw [hsc];exact sliceR_enc sc
        have HMK:=hid hmk
        have HPUT:=hid hput
        have HSC:=hid hsc
        have HVAL:=hid hval
        have HV4:=hid hv4
        have HB4:=hid hb4
        clear hmk hput hsc hval hv4 hb4)
     | (at_mapUpdate;refine wpList_mapUpdate_own _ rfl _ _ _ 55 rfl 9 53 law9 Tryz.underlying55 sliceR mb l.length Dk rfl HMK.out (by unfold maxLen;omega) _ _ (.string x) rfl rfl HKEY.out (scD sc) [] HVAL.out ?_;intro w5 hown5 hgrow5
        have HO5:=hid hown5
        have HG5:=hid hgrow5
        clear hown5 hgrow5))
    have HK5:=hid (HPUT.out x sc (d.file i).safe w5 (by rw [← HSC.out,← HNV.out];exact owns_mono HV4.out (by have:=HB2.out.size;have:=HK2.out.lt;omega)) HG5.out HO5.out)
    have HR5:=hid (((HRG.out.kept (gwk HB4.out) (by simp) (by simp)).kept HG5.out (by simpa using hmbs.symm) (by simpa using hmbi.symm)))
    have HB5:=hid ((HB2.out.trans (HB4.out.mono HB2.out.size)).grown HG5.out (by have:=HB2.out.size;have:=HB4.out.size;omega) (fun k e=>by cases e;exact hmw))
    simp only [Act.put]
    go_roundw
    case rel =>
     refine ⟨_,cnt2,ins l x (d.file i).safe,HR5.out,?_,?_,HK5.out,fun s y hy=>?_,HB5.out⟩
     · have:=len_ins_le l x (d.file i).safe;have:=HLC.out;omega
     · rw [keys_ins,if_neg HNEW.out];exact HC2.out
     · rw [lk_ins] at hy
       by_cases e:s=x
       · rw [if_pos e] at hy;cases hy;exact ⟨i,by rw [e];exact HI.out,rfl⟩
       · rw [if_neg e] at hy;exact HX.out s y hy
    case measure=>exact Nat.lt_of_le_of_lt (Nat.le_of_eq (HR5.out.left_eq.trans HRG.out.left_eq.symm)) HLT.out
end
section
open Go.Maps Go.WideMaps
theorem power_any (w:World) (L:Lay) (gd:Nat) (d:Dm) (h:DAt w L gd d):Calls Tryz.prog 15 #[.pointer (some ⟨gd,0,none⟩)] w fun e w'=>e=.returned (.bool d.power)∧w'=w:=by
 have c:=h.cells.2.2.2.2.2.1
 have HH:=hid h
 clear h
 go_enter Tryz.func15,Tryz.ntmps15
 go_wp2_with fail
 go_ret
 exact ⟨rfl,rfl⟩
theorem epoch_any (w:World) (L:Lay) (gd:Nat) (d:Dm) (h:DAt w L gd d):Calls Tryz.prog 56 #[.pointer (some ⟨gd,0,none⟩)] w fun e w'=>e=.returned (.int .i64 d.epoch)∧w'=w:=by
 have c:=h.cells.2.2.2.2.1
 have HH:=hid h
 clear h
 go_enter Tryz.func56,Tryz.ntmps56
 go_wp2_with fail
 go_ret
 exact ⟨rfl,rfl⟩
theorem newdisk_any (w:World) (space:Int) (h0:0≤space) (h1:space≤1099511627776):Calls Tryz.prog 10 #[.int .i64 space] w fun e w'=>Below w.heap.size w w'∧∃ L gd,e=.returned (.tuple #[.pointer (some ⟨gd,0,none⟩),.nilIface])∧DAt w' L gd (Dm.new space)∧∀ k,k < w.heap.size→L.ρ k=0:=by
 have hmm:=@run_makeMap Tryz.prog
 go_enter Tryz.func10,Tryz.ntmps10
 go_wp2_with fail
 go_ret2
 obtain ⟨w1,hw1⟩:∃ w1,w1=w.alloc (.map #[] 0):=⟨_,rfl⟩
 obtain ⟨w2,hw2⟩:∃ w2,w2=w1.alloc (.map #[] 0):=⟨_,rfl⟩
 obtain ⟨w3,hw3⟩:∃ w3,w3=w2.alloc (.map #[] 0):=⟨_,rfl⟩
 have z1:w1.heap.size=w.heap.size+1:=by rw [hw1];simp
 have z2:w2.heap.size=w.heap.size+2:=by rw [hw2];simp [z1]
 have z3:w3.heap.size=w.heap.size+3:=by rw [hw3];simp [z2]
 have m1:w1.ownsMap Tryz.prog 9 ptrR w.heap.size 0 (.map []):=by rw [hw1];exact World.ownsMap_made w Tryz.prog 9 ptrR
 have m2:w2.ownsMap Tryz.prog 9 ptrR w1.heap.size 0 (.map []):=by rw [hw2];exact World.ownsMap_made w1 Tryz.prog 9 ptrR
 have m3:w3.ownsMap Tryz.prog 9 (plainElem Tryz.prog 3) w2.heap.size 0 (.map []:DataW Unit):=by rw [hw3];exact World.ownsMap_made w2 Tryz.prog 9 _
 rw [z1] at m2
 rw [z2] at m3
 let L:Lay:=⟨put1 (put1 (put1 (put1 (fun _=>0) (w.heap.size+3) 1) w.heap.size 2) (w.heap.size+1) 3) (w.heap.size+2) 4,fun _=>0,w.heap.size,w.heap.size+1,w.heap.size+2,.slice none 0 0,.slice none 0 0⟩
 have hρ:∀ k,L.ρ k=if k=w.heap.size+2 then 4 else if k=w.heap.size+1 then 3 else if k=w.heap.size then 2 else if k=w.heap.size+3 then 1 else 0:=fun k=>rfl
 have hw4:(((w.alloc (.map #[] 0)).alloc (.map #[] 0)).alloc (.map #[] 0))=w3:=by rw [hw3,hw2,hw1]
 rw [hw4]
 have hbb:∀ {B:Nat} {x:World} (o:Obj),Below B w x→B≤x.heap.size→Below B w (x.alloc o):=fun o hx hB=>hx.alloc hB o
 have b3:Below w.heap.size w w3:=by
  rw [hw3];refine hbb _ ?_ (by omega)
  rw [hw2];refine hbb _ ?_ (by omega)
  rw [hw1];exact bel1 _ _
 obtain ⟨w4,hw4⟩:∃ w4,w4=w3.alloc (boxDisk L (Dm.new space)):=⟨_,rfl⟩
 have g4:w4.heap[w.heap.size+3]?=some (boxDisk L (Dm.new space)):=by rw [hw4,← z3];exact heap_alloc_new w3 _
 have b34:Below w3.heap.size w3 w4:=by rw [hw4];exact bel1 _ _
 have z4:w4.heap.size=w.heap.size+4:=by rw [hw4];simp [z3]
 have hb23:Below w2.heap.size w2 w3:=by rw [hw3];exact bel1 _ _
 have hb12:Below w1.heap.size w1 w2:=by rw [hw2];exact bel1 _ _
 have b24:=hb23.trans (b34.mono hb23.size)
 have b14:=hb12.trans (b24.mono hb12.size)
 have e4:w3.alloc (.cells #[.int .i64 0,.int .i64 space,.int .i64 0,.int .i64 0,.int .i64 0,.bool true,.map (some w.heap.size),.map (some (w.heap.size+1)),.slice none 0 0,.slice none 0 0,.map (some (w.heap.size+1+1))] 52)=w4:=hw4.symm
 rw [e4]
 refine ⟨b3.trans (b34.mono b3.size),L,w.heap.size+3,rfl,?_,fun k hk=>by rw [hρ];repeat rw [if_neg (by omega)]⟩
 refine ⟨g4,?_,fun k hk=>?_,⟨.map [],m1.kept (gwk b14) (by simp),?_,rfl,fun s=>⟨rfl,rfl⟩⟩,⟨.map [],m2.kept (gwk b24) (by simp),?_,rfl,fun s=>⟨rfl,rfl⟩⟩,⟨.map [],m3.kept (gwk b34) (by simp),?_,fun s=>⟨rfl,rfl⟩⟩,OwnL.nil _ _ _ _ _,PlAt.nil _ _,fun i f hf=>by simp [Dm.new] at hf⟩
 · rw [hρ,if_neg (by omega),if_neg (by omega),if_neg (by omega),if_pos rfl]
 · rw [hρ] at hk
   rw [z4]
   by_cases e1:k=w.heap.size+2
   · omega
   · rw [if_neg e1] at hk
     by_cases e2:k=w.heap.size+1
     · omega
     · rw [if_neg e2] at hk
       by_cases e3:k=w.heap.size
       · omega
       · rw [if_neg e3] at hk
         by_cases e4:k=w.heap.size+3
         · omega
         · rw [if_neg e4] at hk;exact absurd rfl hk
 · show L.ρ w.heap.size=2
   rw [hρ,if_neg (by omega),if_neg (by omega),if_pos rfl]
 · show L.ρ (w.heap.size+1)=3
   rw [hρ,if_neg (by omega),if_pos rfl]
 · show L.ρ (w.heap.size+2)=4
   rw [hρ,if_pos rfl]
end
section
open Go.Maps Go.WideMaps
end
section
open Go.Maps Go.WideMaps
def RI (w:World) (a:Option Addr) (n:Nat) (l:List Nat):Prop:=l.length=n∧n≤1099511631873∧∀ j x,l[j]?=some x→∃ b off,a=some ⟨b,off,none⟩∧w.cell? ⟨b,off+j,none⟩=some (nV x)
theorem RI.of_owns {w:World} {B n c:Nat} {a:Option Addr} {l:List Nat} (h:w.ownsRow B 3 1 (.slice a n c) n (l.map nV)) (hn:n≤1099511631873):RI w a n l:=by
 have hl:l.length=n:=by have:=h.1;simpa using this
 refine ⟨hl,hn,fun j x hx=>?_⟩
 obtain ⟨a0,c0,hv,hg⟩:=owns_shape h
 injection hv with h1 _ h3
 subst h1 h3
 have hj:=(List.getElem?_eq_some_iff.1 hx).1
 obtain ⟨g,rfl,-,-⟩:=hg (by omega)
 have he:l.map nV=l.flatMap fun x=>[nV x]:=List.map_eq_flatMap
 rw [he] at h
 have:=own_at (enc:=fun x=>[nV x]) (s:=1) (fun _=>rfl) h hx 0 _ rfl
 exact ⟨g,0,rfl,by simpa using this⟩
end
section
open Go.Maps Go.WideMaps
end
section
open Go.Maps Go.WideMaps
end
section
open Go.Maps Go.WideMaps
theorem playAll_snoc (l:List Run) (u:Run):∀ b:List UInt8,playAll (l++[u]) b=u.play u.laid.length (playAll l b):=by
 induction l with
 | nil=>intro b;rfl
 | cons x r ih=>intro b;rw [List.cons_append,playAll,playAll,ih]
theorem play_full_len (u:Run) (b:List UInt8) (h:u.laid=[]→u.cut≤b.length):(u.play u.laid.length b).length=(if u.laid=[] then u.cut else b.length)+u.laid.length:=by
 unfold Run.play
 rw [List.length_append,List.length_take,Nat.min_self]
 by_cases hl:u.laid=[]
 · rw [if_pos hl,if_pos hl,List.length_take,Nat.min_eq_left (h hl)]
 · rw [if_neg hl,if_neg hl]
theorem okR_snoc (l:List Run) (u:Run):∀ b:List UInt8,okR l b.length→(u.laid=[]→u.cut≤(playAll l b).length)→(if u.laid=[] then u.cut else (playAll l b).length)+u.laid.length≤2147483647→okR (l++[u]) b.length:=by
 induction l with
 | nil=>intro b h h1 h2;exact ⟨h,h1,h2⟩
 | cons x r ih =>
   intro b h h1 h2
   obtain ⟨a1,a2,a3⟩:=h
   refine ⟨a1,a2,?_⟩
   have hl:=play_full_len x b a2
   rw [← hl] at a3 ⊢
   exact ih _ a3 h1 h2
theorem playN_all (l:List Run):∀ (n:Int) (b:List UInt8),((l.map Run.units).sum:Int)≤n→playN l n b=playAll l b:=by
 induction l with
 | nil=>intro n b _;rfl
 | cons u r ih =>
   intro n b h
   rw [List.map_cons,List.sum_cons] at h
   have hu:1≤u.units∧u.laid.length≤u.units:=by unfold Run.units;omega
   have hn:¬ n≤0:=by push_cast at h;omega
   rw [playN,if_neg hn,playAll,ih _ _ (by push_cast at h ⊢;omega)]
   congr 1
   unfold Run.play
   rw [List.take_of_length_le (show u.laid.length≤n.toNat by push_cast at h;omega),List.take_length]
end
section
open Go.Maps Go.WideMaps Go.ChangeMaps
theorem laidOutT:laidOutB Tryz.prog=true:=by kernel_rfl
theorem row121:(121:TypeId) < Tryz.prog.types.size:=of_decide_eq_true (by kernel_rfl)
theorem wide121:(match Tryz.prog.underlying 121 with | some (.array _ _) | some (.struct _)=>true | _=>false)=true:=by rw [Tryz.underlying121]
theorem klaw121:WideMaps.KeyLaw Tryz.prog 121:=deep_law_laid laidOutT (m:=2) (by omega) row121 (by kernel_rfl) wide121
theorem law121:Keyed Tryz.prog 121:=Keyed.of_law klaw121
theorem arr121:ArrKey Tryz.prog 121 3 2:=by constructor <;> kernel_rfl
abbrev keyV (l j:Nat):Value:=.agg #[.int .i64 (l:Int),.int .i64 (j:Int)]
def kl2 (l j:Nat):Lit:=.string (keyBytes [.int .i64 (l:Int),.int .i64 (j:Int)])
theorem wf64 (n:Nat) (h:n < 1099511627776):(Lit.int .i64 (n:Int)).wf=true:=WalkArith.wf_i64 (by omega)
theorem key121 {l j:Nat} (hl:l < 1099511627776) (hj:j < 1099511627776):keyOf Tryz.prog 121 (keyV l j)=some (kl2 l j) :=
 keyOf_pair arr121 Tryz.underlying3 ⟨_,(Nat.succ_pred_eq_of_pos (Nat.lt_of_le_of_lt (Nat.zero_le _) row121)).symm⟩ (wf64 l hl) (wf64 j hj)
theorem kl2_inj {l j l' j':Nat} (hl:l < 1099511627776) (hj:j < 1099511627776) (hl':l' < 1099511627776) (hj':j' < 1099511627776) (h:kl2 l j=kl2 l' j'):l=l'∧j=j':=by
 have:=law121.inj (key121 hl hj) (by rw [h];exact key121 hl' hj')
 simp only [Value.agg.injEq,Array.mk.injEq,List.cons.injEq,Value.int.injEq,true_and,and_true] at this
 omega
theorem iskey (l j:Nat):WideAt.IsKeyLit (kl2 l j):=trivial
theorem zero23 (w:World):(zeroValue 23).run Tryz.prog w=.ok (.slice none 0 0) w:=by kernel_rfl
def MAt (w:World) (b n:Nat) (M:Nat→Nat→Sc):Prop:=∃ D:DataW Unit,w.ownsMap Tryz.prog 121 sliceR b n D∧∀ l j,l < 1099511627776→j < 1099511627776→D.atKey (kl2 l j) .nil=scD (M l j)∧has D (kl2 l j)=(M l j).isSome
def put2 (M:Nat→Nat→Sc) (l j:Nat) (c:Sc):Nat→Nat→Sc:=fun l' j'=>if l'=l∧j'=j then c else M l' j'
theorem put2_same (M:Nat→Nat→Sc) (l j:Nat) (c:Sc):put2 M l j c l j=c:=by unfold put2;rw [if_pos ⟨rfl,rfl⟩]
theorem put2_other {M:Nat→Nat→Sc} {l j l' j':Nat} (c:Sc) (h:¬ (l'=l∧j'=j)):put2 M l j c l' j'=M l' j':=by unfold put2;rw [if_neg h]
section
variable {w w' : World} {b n : Nat} {M : Nat → Nat → Sc}
theorem MAt.lt (h:MAt w b n M):b < w.heap.size:=by
 obtain ⟨D,h1,-⟩:=h
 exact h1.lt
theorem MAt.keep (h:MAt w b n M) (hk:w'.heap[b]?=w.heap[b]?):MAt w' b n M:=by
 obtain ⟨D,⟨es,ck,hb,hr⟩,h3⟩:=h
 exact ⟨D,⟨es,ck,hk.trans hb,hr⟩,h3⟩
theorem MAt.look (h:MAt w b n M) {l j:Nat} (hl:l < 1099511627776) (hj:j < 1099511627776):(Instr.lookup 95 (.map (some b)) (keyV l j) false).run Tryz.prog w=.ok (encS (M l j)) w:=by
 obtain ⟨D,h1,h2⟩:=h
 obtain ⟨v,ps,hrun,hv⟩:=h1.lookup law121 Tryz.underlying95 (zero23 w) (zd:=.nil) (zp:=[]) rfl (key121 hl hj)
 obtain ⟨c,rfl⟩:=sliceR_inv hv
 rw [sliceR_enc,(h2 l j hl hj).1] at hv
 have:=scD_inj (Prod.mk.inj (Option.some.inj hv)).1
 rw [hrun,this]
theorem MAt.look_ok (h:MAt w b n M) {l j:Nat} (hl:l < 1099511627776) (hj:j < 1099511627776):(Instr.lookup 95 (.map (some b)) (keyV l j) true).run Tryz.prog w=.ok (.tuple #[encS (M l j),.bool (M l j).isSome]) w:=by
 obtain ⟨D,h1,h2⟩:=h
 obtain ⟨v,ps,hrun,hv⟩:=h1.look_ok law121 Tryz.underlying95 (zero23 w) (zd:=.nil) (zp:=[]) rfl (key121 hl hj)
 obtain ⟨c,rfl⟩:=sliceR_inv hv
 rw [sliceR_enc,(h2 l j hl hj).1] at hv
 have:=scD_inj (Prod.mk.inj (Option.some.inj hv)).1
 rw [hrun,this,(h2 l j hl hj).2]
theorem putD {D:DataW Unit} (hT:Tidy D) (h2:∀ l j,l < 1099511627776→j < 1099511627776→D.atKey (kl2 l j) .nil=scD (M l j)∧has D (kl2 l j)=(M l j).isSome) {l j:Nat} (hl:l < 1099511627776) (hj:j < 1099511627776) (p:Nat × Nat × Nat) :
 ∀ l' j',l' < 1099511627776→j' < 1099511627776→(D.put (kl2 l j) (scD (some p))).atKey (kl2 l' j') .nil=scD (put2 M l j (some p) l' j')∧has (D.put (kl2 l j) (scD (some p))) (kl2 l' j')=(put2 M l j (some p) l' j').isSome:=by
 intro l' j' hl' hj'
 by_cases e:l'=l∧j'=j
 · obtain ⟨rfl,rfl⟩:=e
   rw [put2_same]
   exact ⟨atKey_put_same hT.isMap (iskey _ _) _ _,has_put_same hT.isMap (iskey _ _) _⟩
 · have hne:kl2 l' j' ≠ kl2 l j:=fun h=>e (kl2_inj hl' hj' hl hj h)
   rw [put2_other _ e]
   exact ⟨(atKey_put_other hne _ _).trans (h2 l' j' hl' hj').1,(has_put_other hne _).trans (h2 l' j' hl' hj').2⟩
theorem MAt.update (h:MAt w b n M) (hn:n < maxLen) {l j:Nat} (hl:l < 1099511627776) (hj:j < 1099511627776) (p:Nat × Nat × Nat):∃ w',(Instr.mapUpdate 95 (.map (some b)) (keyV l j) (encS (some p))).run Tryz.prog w=.ok () w'∧MAt w' b (n+1) (put2 M l j (some p))∧w.grownBy w' (some b):=by
 obtain ⟨D,h1,h2⟩:=h
 obtain ⟨w',hrun,h3,h4⟩:=h1.update law121 Tryz.underlying95 hn (key121 hl hj) (sliceR_enc (some p))
 exact ⟨w',hrun,⟨_,h3,putD (h1.tidy law121) h2 hl hj p⟩,h4⟩
theorem MAt.del (h:MAt w b n M) {l j:Nat} (hl:l < 1099511627776) (hj:j < 1099511627776) (ty:TypeId):∃ w',(Builtin.delete_ #[95,121] ty #[.map (some b),keyV l j]).run Tryz.prog w=.ok (.tuple #[]) w'∧MAt w' b n (put2 M l j none)∧w.grownBy w' (some b):=by
 obtain ⟨D,h1,h2⟩:=h
 obtain ⟨w',hrun,h3,h4⟩:=h1.drop law121 Tryz.underlying95 (key121 hl hj) ty
 refine ⟨w',hrun,⟨_,h3,fun l' j' hl' hj'=>?_⟩,h4.grown⟩
 by_cases e:l'=l∧j'=j
 · obtain ⟨rfl,rfl⟩:=e
   rw [put2_same]
   exact ⟨atKey_del_same _,has_del_same⟩
 · have hne:kl2 l' j' ≠ kl2 l j:=fun h=>e (kl2_inj hl' hj' hl hj h)
   rw [put2_other _ e]
   exact ⟨(atKey_del_other hne _).trans (h2 l' j' hl' hj').1,(has_del_other hne).trans (h2 l' j' hl' hj').2⟩
theorem MAt.entry (h:MAt w b n M) (hn:n < maxLen) {l j:Nat} (hl:l < 1099511627776) (hj:j < 1099511627776) :
 ∃ (st:Value) (w1:World),(Instr.mapEntry 95 (.map (some b)) (keyV l j)).run Tryz.prog w=.ok (.tuple #[encS (M l j),st]) w1∧w.grownBy w1 (some b) ∧
   ∀ (p:Nat × Nat × Nat) (w2:World),w2.heap[b]?=w1.heap[b]?→∃ w3,(Instr.entryStore 95 (.map (some b)) st (encS (some p))).run Tryz.prog w2=.ok () w3∧MAt w3 b (n+1) (put2 M l j (some p))∧w2.grownBy w3 (some b):=by
 have hlook:=h.look hl hj
 obtain ⟨D,h1,h2⟩:=h
 have hT:=h1.tidy law121
 have hup:=fun p:Nat × Nat × Nat=>h1.update law121 Tryz.underlying95 hn (key121 hl hj) (sliceR_enc (some p))
 obtain ⟨es,clock,hb,F,hz,hD⟩:=h1
 obtain ⟨v0,st,es1,clock1,hrun,hv0,hst⟩:=WideElems.entry_then_store klaw121 Tryz.underlying95 zero23 hb F (key121 hl hj)
 have hlt:b < w.heap.size:=(Array.getElem?_eq_some_iff.1 hb).1
 have hv:v0=encS (M l j):=by
  rcases klaw121.find w (key121 hl hj) es.toList F.keys with ⟨h1,-⟩ | ⟨jj,e0,h1,h2',h3⟩
  · have e1:(Instr.mapEntry 95 (.map (some b)) (keyV l j)).run Tryz.prog w=.ok (.tuple #[.slice none 0 0,goInt clock]) (setBlock w b (.map (es.push ⟨keyV l j,.slice none 0 0,clock⟩) (clock+1))):=by
     simp [Instr.mapEntry,run_underlying Tryz.underlying95,MapKept.run_getObj_map hb,klaw121.check w false (key121 hl hj),h1,zero23,MapKept.run_setObj_map _ hb,Result.andThen,setBlock]
    have e2:(Instr.lookup 95 (.map (some b)) (keyV l j) false).run Tryz.prog w=.ok (.slice none 0 0) w:=by
     simp [Instr.lookup,run_underlying Tryz.underlying95,MapKept.run_getObj_map hb,klaw121.check w _ (key121 hl hj),h1,zero23,Result.andThen]
    rw [hrun] at e1
    rw [hlook] at e2
    simp only [Result.ok.injEq,Value.tuple.injEq,Array.mk.injEq,List.cons.injEq] at e1 e2
    exact e1.1.1.trans e2.1.symm
  · have hj':es[jj]?=some e0:=by simpa using h2'
    have e1:∃ st' w',(Instr.mapEntry 95 (.map (some b)) (keyV l j)).run Tryz.prog w=.ok (.tuple #[e0.val,st']) w':=by
     refine ⟨goInt e0.born,setBlock w b (.map (es.modify jj fun e=>{ e with key:=keyV l j }) clock),?_⟩
     simp [Instr.mapEntry,run_underlying Tryz.underlying95,MapKept.run_getObj_map hb,klaw121.check w false (key121 hl hj),h1,hj',h3,klaw121.stays w (key121 hl hj),MapKept.run_setObj_map _ hb,Result.andThen,setBlock]
    have e2:(Instr.lookup 95 (.map (some b)) (keyV l j) false).run Tryz.prog w=.ok e0.val w:=by
     simp [Instr.lookup,run_underlying Tryz.underlying95,MapKept.run_getObj_map hb,klaw121.check w _ (key121 hl hj),h1,hj',Result.andThen]
    obtain ⟨st',w',e1⟩:=e1
    rw [hrun] at e1
    rw [hlook] at e2
    simp only [Result.ok.injEq,Value.tuple.injEq,Array.mk.injEq,List.cons.injEq] at e1 e2
    exact e1.1.1.trans e2.1.symm
 rw [hv] at hrun
 refine ⟨_,_,hrun,⟨rfl,rfl,rfl,by simp [setBlock],fun i _ hi=>heap_setBlock_other hb _ (fun e=>hi (by rw [e]))⟩,fun p w2 hw2=>?_⟩
 rw [heap_setBlock_same hb] at hw2
 obtain ⟨es',clock',hr2,hr3⟩:=hst w2 (encS (some p)) hw2
 refine ⟨_,hr2,?_,⟨rfl,rfl,rfl,by simp [setBlock],fun i _ hi=>heap_setBlock_other hw2 _ (fun e=>hi (by rw [e]))⟩⟩
 obtain ⟨w',hr4,⟨es4,ck4,hm4,hrest⟩,-⟩:=hup p
 rw [hr3] at hr4
 cases hr4
 rw [heap_setBlock_same hb] at hm4
 exact ⟨_,⟨es4,ck4,(heap_setBlock_same hw2 _).trans hm4,hrest⟩,putD hT h2 hl hj p⟩
theorem MAt.made (w:World):MAt (w.alloc (.map #[] 0)) w.heap.size 0 (fun _ _=>none) :=
 ⟨_,World.ownsMap_made w Tryz.prog 121 sliceR,fun l j _ _=>⟨rfl,rfl⟩⟩
end
end
end Go.Proofs.YtgkehahklccacaaGreatDoor
