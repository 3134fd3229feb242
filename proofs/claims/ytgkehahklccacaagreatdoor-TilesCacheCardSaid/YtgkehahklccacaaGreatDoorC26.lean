import Derived.Test.YtgkehahklccacaaGreatDoorC25
import Derived.Test.YtgkehahklccacaaGreatDoorC21
import Derived.Test.YtgkehahklccacaaGreatDoorC17
namespace Go.Proofs.YtgkehahklccacaaGreatDoor
open Go Go.RowKit
open Go.Lib (hid)
set_option maxRecDepth 100000
set_option maxHeartbeats 1000000
set_option linter.unusedVariables false
set_option linter.unusedSimpArgs false
section
open Go.Maps Go.WideMaps Go.ChangeMaps
theorem claimOf_claim (d:Dm) (s:Nm):(d.claim s).claimOf s=d.claimOf s+1:=by
 show (lk ((s,d.claimOf s+1) :: d.claims) s).getD 0=_
 simp [lk]
theorem live_fresh (d:Dm) (hp:d.power=true) (wd:Int) (m:Nat) (a b:Bool) (l:List Dg):TT.live ⟨d.epoch,d.claimOf tlN+1,wd,m,a,b,l⟩ (d.claim tlN) tlN=0:=by
 unfold TT.live
 have h1:(d.claim tlN).power=true:=hp
 have h2:((d.claim tlN).epoch:Int)=(d.epoch:Int):=rfl
 rw [if_neg (by rw [h1];decide),if_pos ⟨h2,claimOf_claim d tlN⟩]
theorem UB.upd2 {L:Lay} {τ τ':Nat→Nat} {w0 w w':World} (h:UB L τ L τ' w w') (hu:Upd L.ρ L.ρ w0 w) (hτ:∀ k,τ k ≠ 0→w0.heap.size≤k):Upd L.ρ L.ρ w0 w' :=
 ⟨h.os.trans hu.os,h.tape.trans hu.tape,h.output.trans hu.output,Nat.le_trans hu.size h.size,fun k hk h0=>(h.block k (Nat.lt_of_lt_of_le hk hu.size) h0 (by
   rcases Nat.eq_zero_or_pos (τ k) with e | e
   · exact e
   · have:=hτ k (by omega);omega)).trans (hu.block k hk h0),Ext.refl _ _⟩
theorem UB.new2 {L:Lay} {τ τ':Nat→Nat} {w0 w w':World} (h:UB L τ L τ' w w') (hu:Upd L.ρ L.ρ w0 w) (hτ:∀ k,τ k ≠ 0→w0.heap.size≤k):∀ k,τ' k ≠ 0→w0.heap.size≤k:=fun k hk=>by
 rcases Nat.lt_or_ge k w0.heap.size with e | e
 · refine absurd (h.extT.old k (Nat.lt_of_lt_of_le e hu.size) ?_) hk
   rcases Nat.eq_zero_or_pos (τ k) with e2 | e2
   · exact e2
   · have:=hτ k (by omega);omega
 · exact e
def OvRet (w:World) (L:Lay) (gd:Nat) (d:Dm) (T:TT) (e:Ending) (w':World):Prop :=
 ∃ (gt:Nat) (τ:Nat→Nat) (Y:TY),e=.returned (.pointer (some ⟨gt,0,none⟩))∧BT w' L τ gt gd (d.claim tlN) T Y∧Upd L.ρ L.ρ w w'∧∀ k,τ k ≠ 0→w.heap.size≤k
set_option maxHeartbeats 8000000
theorem over_any (w:World) (L:Lay) (gd:Nat) (d:Dm) (h:DAt w L gd d) (hp:Pre d) (hpw:d.power=true) (hun:∀ i,i < d.fs.length→(d.file i).units≤9223372036854775806) (hcl:d.claims.length < 1000000) (hco:-4611686018427387904≤d.claimOf tlN∧d.claimOf tlN≤4611686018427387904)
 (wd:Int) (hwd:1≤wd∧wd≤32) (ls:List Dg) (a:Option Addr) (n c n0:Nat) (hds:DS w a n c ls) (hn6:n≤60000) (hn0:n0≤n) (m:Nat) (hm:m≤n0 / 256) (rest:List UInt8) (hB:(wholeD d).1=tilesQ wd.toNat (chunk (ls.take n0)) m++rest) (hw0:(wholeD d).2=0)
 (hl0:-9223372036854775808≤(d.length tlN).1) (hl1:(d.length tlN).1≤9223372036854775807) (hlB:(wholeD d).1.length≤281474976710656) (hno:m < n0 / 256→8207≤rest.length→TakeNo wd.toNat m (rest.take 8207)) (hh:HalfTab w) (ht:RoundTab w) (h4:4≤w.heap.size) (hl3:L.ρ 3=0)
 (hla:∀ b off,a=some ⟨b,off,none⟩→0 < n→L.ρ b=0) :
 Calls Tryz.prog 11 #[.pointer (some ⟨gd,0,none⟩),.int .i64 wd,.slice a n c,.int .i64 (n0:Int)] w (OvRet w L gd d ⟨d.epoch,d.claimOf tlN+1,wd,m,looseB d,looseB d,ls⟩):=by
 obtain ⟨w1,hw1⟩:∃ w1,w1=(w.alloc (.cells #[.slice a n c] 23)).alloc (.cells #[.int .i64 (n0:Int)] 3):=⟨_,rfl⟩
 obtain ⟨bl,hbl⟩:∃ bl,bl=w.heap.size:=⟨_,rfl⟩
 obtain ⟨bn,hbn⟩:∃ bn,bn=w.heap.size+1:=⟨_,rfl⟩
 have hb1:Below w.heap.size w w1:=by rw [hw1];exact ((Below.refl _ _).alloc (Nat.le_refl _) _).alloc (by simp) _
 have hz1:w1.heap.size=w.heap.size+2:=by rw [hw1,World.size_alloc,World.size_alloc]
 have hxl:w1.heap[bl]?=some (.cells #[.slice a n c] 23 (0,0)):=by rw [hw1,alOld _ _ _ (by rw [World.size_alloc];omega),hbl];exact heap_alloc_new _ _
 have hxn:w1.heap[bn]?=some (.cells #[.int .i64 (n0:Int)] 3 (0,0)):=by rw [hw1,hbn,← World.size_alloc w (.cells #[.slice a n c] 23)];exact heap_alloc_new _ _
 have hd1:=h.below hb1
 have hds1:=hds.below hb1
 have hρ:∀ b,w.heap.size≤b→L.ρ b=0:=fun b hb=>by
  rcases Nat.eq_zero_or_pos (L.ρ b) with e | e
  · exact e
  · have:=h.dom b (by omega);omega
 have hln:ls.length=n:=hds.1
 have c1n:=cell_of_row w1 bn 0 _ _ _ hxn
 have c1l:=cell_of_row w1 bl 0 _ _ _ hxl
 simp only [List.getElem?_toArray,List.getElem?_cons_zero] at c1n c1l
 have hlt:=h.lt
 have HOP:=hid (open_any w1 L gd d hd1 hp hpw hun hcl hco wd hwd (ls.take n0) n0 (by rw [List.length_take];omega) (by omega) m hm rest hB hw0 hl0 hl1 hlB hno (hh.below hb1 (by omega)) (rt_below ht hb1 (by omega)) (by omega) (.pointer (some ⟨bn,0,none⟩)) (.pointer (some ⟨bl,0,none⟩))
  (fun i x wx hx hb=>leaf1_any wx bn bl a n c n0 i ls x ((hb.cell (p:=⟨bn,0,none⟩) (by show bn < _;omega)).trans c1n) ((hb.cell (p:=⟨bl,0,none⟩) (by show bl < _;omega)).trans c1l) (hds1.below hb)
    (by rw [List.getElem?_take] at hx;split at hx;exact hx;cases hx) (by rw [List.getElem?_take] at hx;split at hx;assumption;cases hx) hn6))
 have HLV:=hid (fun k=>live_fresh d hpw wd m (looseB d) (looseB d) (ls.take k))
 have HX:=hid (And.intro hln (And.intro hn6 (And.intro hn0 (And.intro hz1 (And.intro hbl hbn)))))
 have HB1:=hid hb1;have HDS:=hid hds1;have HXL:=hid hxl;have HXN:=hid hxn;have HRO:=hid hρ;have HLA:=hid hla;have HRT:=hid (rt_below ht hb1 (by omega));have H4:=hid h4;have HDL:=hid hds;have HL3:=hid hl3
 have hw1':(w.alloc (.cells #[.slice a n c] 23)).alloc (.cells #[.int .i64 (n0:Int)] 3)=w1:=hw1.symm
 rw [show (ls.take n0)=ls.take n0 from rfl] at HOP
 clear h hp hpw hun hcl hco hwd hds hn6 hn0 hm hB hw0 hl0 hl1 hlB hno hh ht h4 hl3 hla hw1 hb1 hz1 hxl hxn hd1 hds1 hρ hln c1n c1l hlt
 obtain ⟨ep,hep⟩:∃ ep:Int,ep=(d.epoch:Int):=⟨_,rfl⟩
 obtain ⟨co,hco⟩:∃ co:Int,co=d.claimOf tlN+1:=⟨_,rfl⟩
 obtain ⟨lo,hlo⟩:∃ lo,lo=looseB d:=⟨_,rfl⟩
 rw [← hep,← hco,← hlo] at HOP HLV ⊢
 clear hep hco hlo
 have hbl':w.heap.size=bl:=hbl.symm
 have hbn':bl+1=bn:=by omega
 clear hbl hbn
 go_enter Tryz.func11,Tryz.ntmps11
 go_upto_region 1 with (fail)
 clear hw1'
 have HBL:=hid hbl';have HBN:=hid hbn'
 clear hbl' hbn'
 have e7:=cell_of_row w1 bn 0 _ _ _ HXN.out
 simp only [List.getElem?_toArray,List.getElem?_cons_zero] at e7
 go_upto_region 4 with (go_at_call 21;refine HOP.out.mono ?_;rintro e w2 ⟨gt,τ,Y,rfl,hbt,hu,hnw⟩;have HBT:=hid hbt;have HU:=hid hu;have HNW:=hid hnw;clear hbt hu hnw e7)
 have hbnl:bn < w1.heap.size∧bl < w1.heap.size:=by have:=HX.out.2.2.2.1;have:=HBL.out;have:=HBN.out;omega
 have HBNL:=hid hbnl
 have hz0:w.heap.size≤bn∧w.heap.size≤bl:=by have:=HBL.out;have:=HBN.out;omega
 have HZ0:=hid hz0
 have e7:w2.cell? ⟨bn,0,none⟩=some (.int .i64 (n0:Int)):=by
  have:=cell_of_row w2 bn 0 _ _ _ ((HU.out.block bn hbnl.1 (HRO.out bn hz0.1)).trans HXN.out)
  simpa using this
 clear hbnl hz0
 go_wp2_with fail
 clear e7
 go_loopw [11] (fun v wr=>∃ (k:Nat) (τ':Nat→Nat) (Y':TY),n0≤k∧k≤n∧v=.int .i64 (k:Int)∧BT wr L τ' gt gd (d.claim tlN) ⟨ep,co,wd,m,lo,lo,ls.take k⟩ Y'∧Upd L.ρ L.ρ w1 wr∧∀ j,τ' j ≠ 0→w1.heap.size≤j) (fun v _=>n - (intOf v).toNat)
 case atStart=>exact ⟨n0,τ,Y,Nat.le_refl _,HX.out.2.2.1,rfl,HBT.out,HU.out,HNW.out⟩
 case round =>
  obtain ⟨k,τ2,Y2,hk0,hk,rfl,hbt,hu,hnw⟩:=hrel
  have HBT2:=hid hbt;have HU2:=hid hu;have HNW2:=hid hnw;have HK0:=hid hk0
  have e6:wr.cell? ⟨bl,0,none⟩=some (.slice a n c):=by
   have:=cell_of_row wr bl 0 _ _ _ ((hu.block bl HBNL.out.2 (HRO.out bl HZ0.out.2)).trans HXL.out)
   simpa using this
  by_cases hlt:k < n
  · have h9:decide (k < n)=true:=by simp;exact hlt
    have h8:decide ((k:Int) < (n:Int))=true:=by simp;exact hlt
    obtain ⟨x,hx⟩:∃ x,ls[k]?=some x:=⟨_,List.getElem?_eq_getElem (by rw [HX.out.1];exact hlt)⟩
    obtain ⟨b',off',rfl,hbl,hr⟩:=HDL.out.at hx
    obtain ⟨E,hE⟩:∃ E,E=dgA x.1:=⟨_,rfl⟩
    have HES:=hid (show E.size=32 by rw [hE,dgA_size,x.2])
    have hr:wr.rangeAt b' (off'+k * 32) E.toList:=by
     have h1:w1.rangeAt b' (off'+k * 32) (x.1.map b8):=fun q v hv=>(World.cell?_of_block (HB1.out.block b' hbl)).trans (hr q v hv)
     have h2:wr.rangeAt b' (off'+k * 32) (x.1.map b8):=fun q v hv=>(World.cell?_of_block (hu.block b' (Nat.lt_of_lt_of_le hbl HB1.out.size) (HLA.out b' off' rfl (by omega)))).trans (h1 q v hv)
     rw [hE];simpa [dgA] using h2
    have HR:=hid hr
    have HLT:=hid hlt
    have HXX:=hid hx
    have hk6:k≤60000:=by have:=HX.out.2.1;omega
    have HAD:=hid (show Calls Tryz.prog 14 #[.pointer (some ⟨gt,0,none⟩),.agg E] wr _ from hE ▸ add_any wr L τ2 gt gd (d.claim tlN) _ Y2 hbt (by show (ls.take k).length < 60000;rw [List.length_take];have:=HX.out.1;have:=HX.out.2.1;omega) x (fun i hi=>(World.cell?_of_block (hu.block 3 (by have:=HX.out.2.2.2.1;have:=H4.out;omega) HL3.out)).trans (HRT.out i hi)))
    have HLK:=hid (show ls.take (k+1)=ls.take k++[x] by rw [List.take_add_one,hx];rfl)
    clear hlt hk hk0 hbt hu hnw hx hbl hr hE
    go_wp2_with (first
     | (refine L_load_arr rfl 38 (.tmp 36) (by rfl) b' (off'+k * 32) (by rfl) E _ HR.out Tryz.underlying38 rfl (by rw [HES.out];exact info38) ?_)
     | (go_at_call 14;refine HAD.out.mono ?_;rintro e w3 ⟨v,rfl,hv⟩;obtain ⟨-,rfl,τ3,Y3,hbt3,hu3⟩:=hv.resolve_right (fun q=>q.1 (HLV.out k));have HBT3:=hid hbt3;have HU3:=hid hu3;clear hv hbt3 hu3))
    refine ⟨⟨k+1,τ3,Y3,by have:=HK0.out;omega,HLT.out,by go_num,?_,?_,?_⟩,?_⟩
    · have:=HBT3.out
      rw [HLK.out];exact this
    · exact HU3.out.upd2 HU2.out HNW2.out
    · exact HU3.out.new2 HU2.out HNW2.out
    · have:=HLT.out;simp [intOf];omega
  · obtain rfl:k=n:=by omega
    have h9:decide (k < k)=false:=by simp
    have h8:decide ((k:Int) < (k:Int))=false:=by simp
    have hlk:ls.take k=ls:=List.take_of_length_le (by rw [HX.out.1];exact Nat.le_refl _)
    rw [hlk] at hbt
    have HBT9:=hid hbt
    clear hlt hk hk0 hbt hu hnw hlk
    go_wp2_with fail
    go_ret
    refine ⟨gt,τ2,Y2,rfl,HBT9.out,?_,fun j hj=>Nat.le_trans HB1.out.size (HNW2.out j hj)⟩
    exact ⟨HU2.out.os.trans HB1.out.os,HU2.out.tape.trans HB1.out.tape,HU2.out.output.trans HB1.out.output,Nat.le_trans HB1.out.size HU2.out.size,fun q hq h0=>(HU2.out.block q (Nat.lt_of_lt_of_le hq HB1.out.size) h0).trans (HB1.out.block q hq),⟨HU2.out.ext.same,fun q hq h0=>h0⟩⟩
end
section
open Go.Maps Go.WideMaps
def Dm.bytesOf (d:Dm) (s:Nm):List UInt8:=match lk d.names s with | some i=>(d.file i).now | none=>[]
theorem tN_legal:legalB (bs tlN)=true:=by decide
theorem playN_snoc (l:List Run) (u:Run):∀ (n:Int) (b:List UInt8),playN (l++[u]) n b=playN l n b∨∃ m:Nat,playN (l++[u]) n b=u.play m (playAll l b):=by
 induction l with
 | nil =>
   intro n b
   show playN [u] n b=b∨_
   rw [playN]
   split
   · exact .inl rfl
   · exact .inr ⟨n.toNat,by rw [List.nil_append,playN,if_neg ‹_›];rfl⟩
 | cons v r ih =>
   intro n b
   rw [List.cons_append,playN,playN]
   split
   · exact .inl rfl
   · by_cases h:n - v.units≤0
     · rw [playN_neg _ _ _ h,playN_neg _ _ _ h];exact .inl rfl
     · have hl:v.laid.length≤v.units:=by unfold Run.units;omega
       have e:v.play n.toNat b=v.play v.laid.length b:=by
        unfold Run.play
        rw [List.take_of_length_le (show v.laid.length≤n.toNat by omega),List.take_length]
       rw [playAll,← e]
       exact ih _ _
structure FileP (TB:List UInt8) (N:Nat) (f:Fl):Prop where
 ok:okR f.loose f.safe.length
 pl:playAll f.loose f.safe=f.now
 pre:∀ n:Int,playN f.loose n f.safe <+: TB
 runs:f.loose.length≤N
 laid:∀ u ∈ f.loose,u.laid.length≤TB.length
variable {TB TB' : List UInt8} {N M : Nat} {f : Fl} {d : Dm}
theorem FileP.nowP (h:FileP TB N f):f.now <+: TB:=by
 have:=h.pre ((f.loose.map Run.units).sum:Nat)
 rwa [playN_all _ _ _ (Int.le_refl _),h.pl] at this
theorem FileP.safeP (h:FileP TB N f):f.safe <+: TB:=by
 have:=h.pre 0
 rwa [playN_neg _ _ _ (Int.le_refl _)] at this
theorem FileP.mono (h:FileP TB N f) (ht:TB <+: TB') (hn:N≤M):FileP TB' M f :=
 ⟨h.ok,h.pl,fun n=>(h.pre n).trans ht,Nat.le_trans h.runs hn,fun u hu=>Nat.le_trans (h.laid u hu) ht.length_le⟩
theorem FileP.new (TB:List UInt8) (N:Nat):FileP TB N ⟨[],[],[]⟩:=⟨okR_nil,rfl,fun n=>List.nil_prefix,Nat.zero_le _,fun u h=>by cases h⟩
theorem FileP.append (h:FileP TB N f) (q:List UInt8) (hq:q ≠ []) (hp:f.now++q <+: TB) (hT:TB.length≤1000000):FileP TB (N+1) ⟨f.now++q,f.safe,f.loose++[⟨q,0⟩]⟩:=by
 have hl:=hp.length_le
 rw [List.length_append] at hl
 refine ⟨okR_snoc _ _ _ h.ok (fun e=>absurd e hq) ?_,?_,fun n=>?_,?_,fun u hu=>?_⟩
 · show (if q=[] then _ else _)+q.length≤_
   rw [if_neg hq,h.pl];omega
 · rw [playAll_snoc,h.pl]
   show (if q=[] then _ else _)++q.take q.length=_
   rw [if_neg hq,List.take_length]
 · rcases playN_snoc f.loose ⟨q,0⟩ n f.safe with e | ⟨m,e⟩
   · rw [e];exact h.pre n
   · rw [e,h.pl]
     show (if q=[] then _ else _)++q.take m <+: _
     rw [if_neg hq]
     exact ((List.prefix_append_right_inj _).2 (List.take_prefix _ _)).trans hp
 · rw [List.length_append];have:=h.runs;show _+1≤_;omega
 · rcases List.mem_append.1 hu with hu | hu
   · exact h.laid u hu
   · obtain rfl:u=⟨q,0⟩:=by simpa using hu
     show q.length≤_;omega
theorem FileP.cut (h:FileP TB N f) (c:Nat) (hc:c≤f.now.length) (hT:TB.length≤1000000):FileP TB (N+1) ⟨f.now.take c,f.safe,f.loose++[⟨[],c⟩]⟩:=by
 have hl:=h.nowP.length_le
 refine ⟨okR_snoc _ _ _ h.ok (fun _=>by rw [h.pl];exact hc) ?_,?_,fun n=>?_,?_,fun u hu=>?_⟩
 · show (if ([]:List UInt8)=[] then c else _)+0≤_
   rw [if_pos rfl];omega
 · rw [playAll_snoc,h.pl]
   show (if ([]:List UInt8)=[] then f.now.take c else _)++([]:List UInt8).take _=_
   rw [if_pos rfl,List.take_nil,List.append_nil]
 · rcases playN_snoc f.loose ⟨[],c⟩ n f.safe with e | ⟨m,e⟩
   · rw [e];exact h.pre n
   · rw [e,h.pl]
     show (if ([]:List UInt8)=[] then f.now.take c else _)++([]:List UInt8).take _ <+: _
     rw [if_pos rfl,List.take_nil,List.append_nil]
     exact (List.take_prefix _ _).trans h.nowP
 · rw [List.length_append];have:=h.runs;show _+1≤_;omega
 · rcases List.mem_append.1 hu with hu | hu
   · exact h.laid u hu
   · obtain rfl:u=⟨[],c⟩:=by simpa using hu
     exact Nat.zero_le _
theorem FileP.sync (h:FileP TB N f) (hT:TB.length≤1000000):FileP TB N ⟨f.now,f.now,[]⟩:=by
 have:=h.nowP.length_le
 exact ⟨show f.now.length≤_ by omega,rfl,fun n=>h.nowP,Nat.zero_le _,fun u hu=>by cases hu⟩
theorem FileP.keep (h:FileP TB N f) (n:Int) (hT:TB.length≤1000000):FileP TB N (f.keep n):=by
 have hp:=h.pre n
 have:=hp.length_le
 exact ⟨show (playN f.loose n f.safe).length≤_ by omega,rfl,fun n=>hp,Nat.zero_le _,fun u hu=>by cases hu⟩
theorem sum_units_le (B:Nat):∀ l:List Run,(∀ u ∈ l,u.laid.length≤B)→(l.map Run.units).sum≤l.length * (B+1):=by
 intro l
 induction l with
 | nil=>intro _;exact Nat.zero_le _
 | cons u r ih =>
   intro h
   have h1:=ih fun x hx=>h x (List.mem_cons_of_mem _ hx)
   have h2:=h u List.mem_cons_self
   have h3:u.units≤B+1:=by unfold Run.units;omega
   rw [List.map_cons,List.sum_cons,List.length_cons,Nat.add_mul];omega
theorem FileP.units (h:FileP TB N f) (hT:TB.length≤1000000) (hN:N≤1000000):f.units≤9223372036854775806:=by
 have h1:=sum_units_le _ _ h.laid
 have h2:f.loose.length * (TB.length+1)≤1000000 * 1000001:=Nat.mul_le_mul (Nat.le_trans h.runs hN) (by omega)
 unfold Fl.units;omega
def NSt (d:Dm):Prop:=(d.names=[]∧d.safe=[]∧d.changes=[])∨(∃ i,i < d.fs.length∧d.names=[(tlN,i)]∧d.safe=[]∧d.changes=[⟨[],tlN,some i⟩])∨∃ i,i < d.fs.length∧d.names=[(tlN,i)]∧d.safe=[(tlN,i)]∧d.changes=[]
structure TD (TB:List UInt8) (N:Nat) (d:Dm):Prop where
 sp:d.space=1099511627776
 st:NSt d
 fsl:d.fs.length≤N
 files:∀ f ∈ d.fs,FileP TB N f
 used:d.used=((d.bytesOf tlN).length:Nat)
 acts:d.acts≤N
 ep:d.epoch≤N
theorem TD.new (TB:List UInt8):TD TB 0 (Dm.new 1099511627776):=⟨rfl,.inl ⟨rfl,rfl,rfl⟩,Nat.le_refl _,(fun f h=>(by cases h)),rfl,Nat.le_refl _,Nat.le_refl _⟩
theorem TD.mono (h:TD TB N d) (ht:TB <+: TB') (hn:N≤M):TD TB' M d :=
 ⟨h.sp,h.st,Nat.le_trans h.fsl hn,fun f hf=>(h.files f hf).mono ht hn,h.used,Nat.le_trans h.acts hn,Nat.le_trans h.ep hn⟩
theorem lk_one (i:Nat) (s:Nm):lk [(tlN,i)] s=if s=tlN then some i else none:=rfl
theorem TD.at_ (h:TD TB N d):(lk d.names tlN=none∧d.names=[])∨∃ i,i < d.fs.length∧lk d.names tlN=some i∧d.names=[(tlN,i)]:=by
 rcases h.st with ⟨a,-,-⟩ | ⟨i,hi,a,-,-⟩ | ⟨i,hi,a,-,-⟩
 · exact .inl ⟨by rw [a];rfl,a⟩
 · exact .inr ⟨i,hi,by rw [a,lk_one,if_pos rfl],a⟩
 · exact .inr ⟨i,hi,by rw [a,lk_one,if_pos rfl],a⟩
theorem TD.file_at (h:TD TB N d) (i:Nat):FileP TB N (d.file i):=by
 unfold Dm.file
 cases e:d.fs[i]? with
 | none=>exact FileP.new TB N
 | some f=>exact h.files f (List.mem_of_getElem? e)
theorem TD.pre (h:TD TB N d) (hT:TB.length≤1000000) (hN:N≤1000000):Pre d:=by
 have hf:∀ f ∈ d.fs,f.now.length≤2147483647∧f.safe.length≤2147483647∧f.loose.length < 1099511627776:=fun f hf=>by
  have h1:=(h.files f hf).nowP.length_le;have h2:=(h.files f hf).safeP.length_le;have h3:=(h.files f hf).runs
  exact ⟨by omega,by omega,by omega⟩
 have h1:=h.acts;have h2:=h.ep;have h3:=h.fsl
 have hk:∀ i:Nat,keysOf [(tlN,i)]=[tlN]:=fun i=>rfl
 rcases h.st with ⟨a,b,c⟩ | ⟨i,hi,a,b,c⟩ | ⟨i,hi,a,b,c⟩
 all_goals refine ⟨⟨fun s j e=>?_,fun s j e=>?_,fun x hx j e=>?_⟩,?_,?_,?_,?_,by omega,by omega,by omega,?_,fun s hs=>?_,hf⟩
 all_goals first
  | (rw [a] at e;cases e;done)
  | (rw [b] at e;cases e;done)
  | (rw [a,lk_one] at e;split at e <;> cases e;exact hi)
  | (rw [b,lk_one] at e;split at e <;> cases e;exact hi)
  | (rw [c] at hx;cases hx;done)
  | (rw [c] at hx;obtain rfl:=List.mem_singleton.1 hx;cases e;exact hi)
  | (rw [a];exact List.nodup_nil)
  | (rw [b];exact List.nodup_nil)
  | (rw [a,hk];exact List.nodup_cons.2 ⟨by simp,List.nodup_nil⟩)
  | (rw [b,hk];exact List.nodup_cons.2 ⟨by simp,List.nodup_nil⟩)
  | (rw [a];exact Nat.zero_le _)
  | (rw [b];exact Nat.zero_le _)
  | (rw [a];show 1≤4096;decide)
  | (rw [b];show 1≤4096;decide)
  | (rw [c];show (0:Nat) < 1099511627776;decide)
  | (rw [c];show (1:Nat) < 1099511627776;decide)
  | (rw [a] at hs;cases hs;done)
  | (rw [a,hk] at hs;obtain rfl:=List.mem_singleton.1 hs;exact tN_legal)
theorem begin_td {TB:List UInt8} {N:Nat} {d:Dm} {w:Dm→Dm} {p:Int→Dm→Dm} (hw:TD TB (N+1) (w { d with acts:=d.acts+1 })) (hp:∀ n,TD TB (N+1) (p n { d with acts:=d.acts+1 })) (he:TD TB (N+1) { d with acts:=d.acts+1 }):TD TB (N+1) (d.begin w p).1:=by
 have hd:∀ x:Dm,TD TB (N+1) x→TD TB (N+1) { x with power:=false }:=fun x h=>⟨h.sp,h.st,h.fsl,h.files,h.used,h.acts,h.ep⟩
 unfold Dm.begin
 dsimp only
 split
 · exact he
 split
 · exact hw
 split
 · exact hp _
 split
 · exact hp _
 split
 · exact hd _ (hp _)
 split
 · exact hd _ hw
 · exact hw
theorem begin_ok {d:Dm} {w:Dm→Dm} {p:Int→Dm→Dm} (h:(d.begin w p).2=0):(d.begin w p).1=w { d with acts:=d.acts+1 }:=by
 unfold Dm.begin at h ⊢
 dsimp only at h ⊢
 split at h
 · cases h
 rename_i h1
 split at h
 · cases h
 rename_i h2
 split at h
 · cases h
 rename_i h3
 split at h
 · cases h
 rename_i h4
 split at h
 · cases h
 rename_i h5
 split at h
 · cases h
 rename_i h6
 rw [if_neg h1,if_neg h2,if_neg h3,if_neg h4,if_neg h5,if_neg h6]
theorem begin_calm {d:Dm} (h:d.plan=[]) (w:Dm→Dm) (p:Int→Dm→Dm):d.begin w p=(w { d with acts:=d.acts+1 },0):=by
 unfold Dm.begin Dm.planned
 rw [h];rfl
theorem begin_kept {P:Dm→Prop} {d:Dm} {w:Dm→Dm} {p:Int→Dm→Dm} (hw:P (w { d with acts:=d.acts+1 })) (hp:∀ n,P (p n { d with acts:=d.acts+1 })) (he:P { d with acts:=d.acts+1 }) (hd:∀ x,P x→P { x with power:=false }):P (d.begin w p).1:=by
 unfold Dm.begin
 dsimp only
 split
 · exact he
 split
 · exact hw
 split
 · exact hp _
 split
 · exact hp _
 split
 · exact hd _ (hp _)
 split
 · exact hd _ hw
 · exact hw
variable {TB TB' : List UInt8} {N M : Nat} {f : Fl} {d : Dm}
theorem TD.acted (h:TD TB N d):TD TB (N+1) { d with acts:=d.acts+1 } :=
 ⟨h.sp,h.st,Nat.le_succ_of_le h.fsl,fun f hf=>(h.files f hf).mono (List.prefix_refl _) (Nat.le_succ _),h.used,Nat.succ_le_succ h.acts,Nat.le_succ_of_le h.ep⟩
theorem ask_t (hp:d.power=true):d.ask tlN=match lk d.names tlN with | none=>(none,32) | some i=>(some i,0):=by
 unfold Dm.ask
 rw [if_neg (by rw [hp];decide),if_neg (by rw [tN_legal];decide)]
 cases lk d.names tlN <;> rfl
theorem bytesOf_none (h:lk d.names tlN=none):d.bytesOf tlN=[]:=by unfold Dm.bytesOf;rw [h]
theorem bytesOf_some {i:Nat} (h:lk d.names tlN=some i):d.bytesOf tlN=(d.file i).now:=by unfold Dm.bytesOf;rw [h]
def Dm.madeT (e:Dm):Dm:=({ e with fs:=e.fs++[⟨[],[],[]⟩] }:Dm).change ⟨[],tlN,some e.fs.length⟩
theorem TD.made (h:TD TB N d) (hn:lk d.names tlN=none):TD TB (N+1) (Dm.madeT { d with acts:=d.acts+1 })∧lk (Dm.madeT { d with acts:=d.acts+1 }).names tlN=some d.fs.length:=by
 have hd:d.names=[]∧d.safe=[]∧d.changes=[]:=by
  rcases h.st with a | ⟨i,hi,a,-,-⟩ | ⟨i,hi,a,-,-⟩
  · exact a
  · rw [a,lk_one,if_pos rfl] at hn;cases hn
  · rw [a,lk_one,if_pos rfl] at hn;cases hn
 obtain ⟨a,b,c⟩:=hd
 have hnm:(Dm.madeT { d with acts:=d.acts+1 }).names=[(tlN,d.fs.length)]:=by
  show (Chg.act ⟨[],tlN,some d.fs.length⟩ d.names)=_
  unfold Chg.act;dsimp only
  rw [if_neg (by decide),a];rfl
 have hl:(d.fs++[(⟨[],[],[]⟩:Fl)]).length=d.fs.length+1:=by rw [List.length_append];rfl
 have hfi:(Dm.madeT { d with acts:=d.acts+1 }).file d.fs.length=⟨[],[],[]⟩:=by
  show (d.fs++[(⟨[],[],[]⟩:Fl)])[d.fs.length]?.getD _=_
  rw [List.getElem?_append_right (Nat.le_refl _),Nat.sub_self];rfl
 have hlk:lk (Dm.madeT { d with acts:=d.acts+1 }).names tlN=some d.fs.length:=by rw [hnm,lk_one,if_pos rfl]
 refine ⟨⟨h.sp,.inr (.inl ⟨d.fs.length,?_,hnm,b,?_⟩),?_,fun f hf=>?_,?_,Nat.succ_le_succ h.acts,Nat.le_succ_of_le h.ep⟩,hlk⟩
 · show _ < (d.fs++[_]).length;rw [hl];omega
 · show d.changes++[_]=_;rw [c];rfl
 · show (d.fs++[_]).length≤_;rw [hl];have:=h.fsl;omega
 · rcases List.mem_append.1 hf with h1 | h1
   · exact (h.files f h1).mono (List.prefix_refl _) (Nat.le_succ _)
   · rw [List.mem_singleton.1 h1];exact FileP.new _ _
 · rw [bytesOf_some hlk,hfi]
   have h1:(Dm.madeT { d with acts:=d.acts+1 }).used=d.used:=by
    show Dm.usedFor { ({ d with acts:=d.acts+1 }:Dm) with fs:=d.fs++[⟨[],[],[]⟩] } ⟨[],tlN,some d.fs.length⟩=d.used
    unfold Dm.usedFor
    rw [if_neg (by rintro ⟨e,-⟩;cases e)]
   rw [h1,h.used,bytesOf_none hn]
theorem TD.over (h:TD TB N d) {i:Nat} (hi:lk d.names tlN=some i) (g:Fl) (hg:FileP TB (N+1) g) (u:Int) (hu:u=(g.now.length:Nat)) (a:Nat) (ha:a≤N+1):TD TB (N+1) { d with fs:=d.fs.set i g,used:=u,acts:=a }∧({ d with fs:=d.fs.set i g,used:=u,acts:=a }:Dm).file i=g:=by
 have hil:i < d.fs.length:=by
  rcases h.at_ with ⟨e,-⟩ | ⟨j,hj,e,-⟩
  · rw [e] at hi;cases hi
  · rw [e] at hi;cases hi;exact hj
 have hfi:({ d with fs:=d.fs.set i g,used:=u,acts:=a }:Dm).file i=g:=by
  show (d.fs.set i g)[i]?.getD _=_
  rw [List.getElem?_set_self hil];rfl
 have hl:(d.fs.set i g).length=d.fs.length:=List.length_set
 refine ⟨⟨h.sp,?_,?_,fun f hf=>?_,?_,ha,Nat.le_succ_of_le h.ep⟩,hfi⟩
 · rcases h.st with x | ⟨j,hj,x⟩ | ⟨j,hj,x⟩
   · exact .inl x
   · exact .inr (.inl ⟨j,by show j < (d.fs.set i g).length;rw [hl];exact hj,x⟩)
   · exact .inr (.inr ⟨j,by show j < (d.fs.set i g).length;rw [hl];exact hj,x⟩)
 · show (d.fs.set i g).length≤_;rw [hl];have:=h.fsl;omega
 · rcases List.mem_or_eq_of_mem_set hf with h1 | h1
   · exact (h.files f h1).mono (List.prefix_refl _) (Nat.le_succ _)
   · rw [h1];exact hg
 · rw [bytesOf_some (d:={ d with fs:=d.fs.set i g,used:=u,acts:=a }) (i:=i) hi,hfi];exact hu
theorem TD.safed (h:TD TB N d) (a:Nat) (ha:a≤N+1):TD TB (N+1) { d with safe:=d.names,changes:=[],acts:=a }:=by
 refine ⟨h.sp,?_,Nat.le_succ_of_le h.fsl,fun f hf=>(h.files f hf).mono (List.prefix_refl _) (Nat.le_succ _),h.used,ha,Nat.le_succ_of_le h.ep⟩
 rcases h.st with ⟨x,y,z⟩ | ⟨j,hj,x,y,z⟩ | ⟨j,hj,x,y,z⟩
 · exact .inl ⟨x,x,rfl⟩
 · exact .inr (.inr ⟨j,hj,x,x,rfl⟩)
 · exact .inr (.inr ⟨j,hj,x,x,rfl⟩)
theorem TD.create (h:TD TB N d) (hp:d.power=true) (hn:lk d.names tlN=none):TD TB (N+1) (d.create tlN).1∧((d.create tlN).2=0→(d.create tlN).1=Dm.madeT { d with acts:=d.acts+1 })∧(d.plan=[]→(d.create tlN).2=0):=by
 have e:d.create tlN=d.begin Dm.madeT (fun _ e=>e):=by
  unfold Dm.create
  dsimp only
  rw [ask_t hp,hn]
  dsimp only
  rw [if_neg (by decide),if_pos rfl]
  have:¬ 4096≤d.names.length:=by
   rcases h.at_ with ⟨-,x⟩ | ⟨i,-,-,x⟩ <;> rw [x]
   · decide
   · show ¬ 4096≤1;decide
  rw [if_neg this];rfl
 rw [e]
 exact ⟨begin_td (h.made hn).1 (fun _=>h.acted) h.acted,begin_ok,fun hc=>by rw [begin_calm hc]⟩
theorem TD.named (h:TD TB N d) {i:Nat} (hi:lk d.names tlN=some i):i < d.fs.length∧d.used=((d.file i).now.length:Nat)∧FileP TB N (d.file i):=by
 refine ⟨?_,by rw [h.used,bytesOf_some hi],h.file_at i⟩
 rcases h.at_ with ⟨e,-⟩ | ⟨j,hj,e,-⟩
 · rw [e] at hi;cases hi
 · rw [e] at hi;cases hi;exact hj
theorem TD.laid (h:TD TB N d) (hT:TB.length≤1000000) {i:Nat} (hi:lk d.names tlN=some i) (p:List UInt8) (hp:(d.file i).now++p <+: TB) (n:Int):TD TB (N+1) (partOf i p n { d with acts:=d.acts+1 })∧((partOf i p n { d with acts:=d.acts+1 }).names=d.names∧(partOf i p n { d with acts:=d.acts+1 }).safe=d.safe∧(partOf i p n { d with acts:=d.acts+1 }).changes=d.changes∧(d.file i).now.length≤((partOf i p n { d with acts:=d.acts+1 }).file i).now.length)∧(p ≠ []→p.length≤n→((partOf i p n { d with acts:=d.acts+1 }).file i).now=(d.file i).now++p):=by
 obtain ⟨hil,hu,hf⟩:=h.named hi
 have hl:=hp.length_le
 rw [List.length_append] at hl
 unfold partOf
 dsimp only
 split
 · rename_i e
   refine ⟨h.acted,⟨rfl,rfl,rfl,Nat.le_refl _⟩,fun h1 h2=>?_⟩
   rw [List.take_of_length_le (by omega)] at e
   exact absurd e h1
 · rename_i e
   have hq:(d.file i).now++p.take n.toNat <+: TB:=((List.prefix_append_right_inj _).2 (List.take_prefix _ _)).trans hp
   have hql:=hq.length_le
   rw [List.length_append] at hql
   have hw:wrap64 (d.used+(p.take n.toNat).length)=(((d.file i).now++p.take n.toNat).length:Nat):=by
    rw [hu,List.length_append,wrap64_small (by omega) (by omega)];push_cast;rfl
   have ho:=h.over hi ⟨(d.file i).now++p.take n.toNat,(d.file i).safe,(d.file i).loose++[⟨p.take n.toNat,0⟩]⟩ (hf.append _ e hq hT) (wrap64 (d.used+(p.take n.toNat).length)) hw (d.acts+1) (Nat.succ_le_succ h.acts)
   have hlen:(d.file i).now.length≤(({ d with fs:=d.fs.set i ⟨(d.file i).now++p.take n.toNat,(d.file i).safe,(d.file i).loose++[⟨p.take n.toNat,0⟩]⟩,used:=wrap64 (d.used+(p.take n.toNat).length),acts:=d.acts+1 }:Dm).file i).now.length:=by
    rw [ho.2];show _≤((d.file i).now++p.take n.toNat).length;rw [List.length_append];omega
   refine ⟨ho.1,⟨rfl,rfl,rfl,hlen⟩,fun h1 h2=>?_⟩
   have:(({ d with fs:=d.fs.set i ⟨(d.file i).now++p.take n.toNat,(d.file i).safe,(d.file i).loose++[⟨p.take n.toNat,0⟩]⟩,used:=wrap64 (d.used+(p.take n.toNat).length),acts:=d.acts+1 }:Dm).file i).now=(d.file i).now++p:=by
    rw [ho.2];show _++p.take n.toNat=_;rw [List.take_of_length_le (by omega)]
   exact this
theorem TD.append (h:TD TB N d) (hT:TB.length≤1000000) (hpw:d.power=true) {i:Nat} (hi:lk d.names tlN=some i) (p:List UInt8) (hp:(d.file i).now++p <+: TB) (h0:p ≠ []):TD TB (N+1) (d.append tlN p).1∧((d.append tlN p).1.names=d.names∧(d.append tlN p).1.safe=d.safe∧(d.append tlN p).1.changes=d.changes∧(d.file i).now.length≤((d.append tlN p).1.file i).now.length)∧((d.append tlN p).2=0→((d.append tlN p).1.file i).now=(d.file i).now++p∧(d.append tlN p).1.power=true∧(d.append tlN p).1.plan=d.plan∧(d.append tlN p).1.safe=d.safe∧(d.append tlN p).1.changes=d.changes)∧(d.plan=[]→(d.append tlN p).2=0):=by
 obtain ⟨hil,hu,hf⟩:=h.named hi
 have hl:=hp.length_le
 rw [List.length_append] at hl
 have hfit:p.take (max (wrap64 (d.space - d.used)) 0).toNat=p:=by
  rw [h.sp,hu,wrap64_small (by omega) (by omega)]
  exact List.take_of_length_le (by omega)
 have e:d.append tlN p=d.begin (partOf i p p.length) (partOf i p):=by
  unfold Dm.append
  rw [ask_t hpw,hi]
  dsimp only
  rw [if_neg (by omega),hfit,if_neg (by omega)]
 have hnm :=
  begin_kept (P:=fun x=>x.names=d.names∧x.safe=d.safe∧x.changes=d.changes∧(d.file i).now.length≤(x.file i).now.length) (d:=d) (w:=partOf i p p.length) (p:=partOf i p) (h.laid hT hi p hp _).2.1 (fun n=>(h.laid hT hi p hp n).2.1) ⟨rfl,rfl,rfl,Nat.le_refl _⟩ (fun x hx=>hx)
 rw [e]
 refine ⟨begin_td (h.laid hT hi p hp _).1 (fun n=>(h.laid hT hi p hp n).1) h.acted,hnm,fun h1=>?_,fun hc=>by rw [begin_calm hc]⟩
 rw [begin_ok h1]
 refine ⟨(h.laid hT hi p hp _).2.2 h0 (Int.le_refl _),?_⟩
 unfold partOf
 dsimp only
 split
 · exact ⟨hpw,rfl,rfl,rfl⟩
 · exact ⟨hpw,rfl,rfl,rfl⟩
theorem TD.cut (h:TD TB N d) (hT:TB.length≤1000000) (hpw:d.power=true) {i:Nat} (hi:lk d.names tlN=some i) (c:Nat) (hc:c≤(d.file i).now.length):TD TB (N+1) (d.cut tlN c).1∧((d.cut tlN c).1.names=d.names∧(d.cut tlN c).1.safe=d.safe∧(d.cut tlN c).1.changes=d.changes)∧(c≤((d.cut tlN c).1.file i).now.length)∧((d.cut tlN c).2=0→((d.cut tlN c).1.file i).now=(d.file i).now.take c∧(d.cut tlN c).1.power=true∧(d.cut tlN c).1.plan=d.plan∧(d.cut tlN c).1.safe=d.safe∧(d.cut tlN c).1.changes=d.changes)∧(d.plan=[]→(d.cut tlN c).2=0):=by
 obtain ⟨hil,hu,hf⟩:=h.named hi
 have hl:=hf.nowP.length_le
 have hlc:((d.file i).now.take c).length=c:=by rw [List.length_take,Nat.min_eq_left hc]
 have e:d.cut tlN c=d.begin (fun e=>{ (e.setF i ⟨(e.file i).now.take c,(e.file i).safe,(e.file i).loose++[⟨[],c⟩]⟩) with used:=wrap64 (e.used - wrap64 (((e.file i).now.length:Int) - c)) }) (fun _ e=>e):=by
  unfold Dm.cut
  rw [ask_t hpw,hi]
  dsimp only
  rw [if_neg (by omega)];rfl
 have hw:wrap64 (d.used - wrap64 (((d.file i).now.length:Int) - c))=((d.file i).now.take c).length:=by
  rw [hlc,hu,wrap64_small (x:=((d.file i).now.length:Int) - c) (by omega) (by omega),wrap64_small (by omega) (by omega)];omega
 have ho:=h.over hi ⟨(d.file i).now.take c,(d.file i).safe,(d.file i).loose++[⟨[],c⟩]⟩ (hf.cut c hc hT) (wrap64 (d.used - wrap64 (((d.file i).now.length:Int) - c))) hw (d.acts+1) (Nat.succ_le_succ h.acts)
 rw [e]
 refine ⟨begin_td ho.1 (fun n=>h.acted) h.acted,begin_kept (P:=fun x=>x.names=d.names∧x.safe=d.safe∧x.changes=d.changes) ⟨rfl,rfl,rfl⟩ (fun n=>⟨rfl,rfl,rfl⟩) ⟨rfl,rfl,rfl⟩ (fun x hx=>hx),?_,fun h1=>?_,fun hc=>by rw [begin_calm hc]⟩
 · refine begin_kept (P:=fun x=>c≤(x.file i).now.length) ?_ (fun n=>hc) hc (fun x hx=>hx)
   show c≤(({ d with fs:=d.fs.set i ⟨(d.file i).now.take c,(d.file i).safe,(d.file i).loose++[⟨[],c⟩]⟩,used:=wrap64 (d.used - wrap64 (((d.file i).now.length:Int) - c)),acts:=d.acts+1 }:Dm).file i).now.length
   rw [ho.2];exact Nat.le_of_eq hlc.symm
 · rw [begin_ok h1]
   exact ⟨congrArg Fl.now ho.2,hpw,rfl,rfl,rfl⟩
theorem TD.sync (h:TD TB N d) (hT:TB.length≤1000000) (hpw:d.power=true) {i:Nat} (hi:lk d.names tlN=some i):TD TB (N+1) (d.sync tlN).1∧(d.sync tlN).1.names=d.names∧((d.sync tlN).1.file i).now=(d.file i).now∧((d.sync tlN).2=0→(d.sync tlN).1.file i=⟨(d.file i).now,(d.file i).now,[]⟩∧(d.sync tlN).1.power=true∧(d.sync tlN).1.plan=d.plan∧(d.sync tlN).1.safe=d.safe∧(d.sync tlN).1.changes=d.changes)∧(d.plan=[]→(d.sync tlN).2=0):=by
 obtain ⟨hil,hu,hf⟩:=h.named hi
 have e:d.sync tlN=d.begin (fun e=>e.setF i ⟨(e.file i).now,(e.file i).now,[]⟩) (fun _ e=>e):=by
  unfold Dm.sync
  rw [ask_t hpw,hi]
 have ho:=h.over hi ⟨(d.file i).now,(d.file i).now,[]⟩ ((hf.sync hT).mono (List.prefix_refl _) (Nat.le_succ _)) d.used hu (d.acts+1) (Nat.succ_le_succ h.acts)
 have ho2:((({ d with acts:=d.acts+1 }:Dm).setF i ⟨(d.file i).now,(d.file i).now,[]⟩).file i)=⟨(d.file i).now,(d.file i).now,[]⟩:=ho.2
 rw [e]
 refine ⟨begin_td ho.1 (fun n=>h.acted) h.acted,begin_kept (P:=fun x=>x.names=d.names) rfl (fun n=>rfl) rfl (fun x hx=>hx),?_,fun h1=>?_,fun hc=>by rw [begin_calm hc]⟩
 · exact begin_kept (P:=fun x=>(x.file i).now=(d.file i).now) (by have:=congrArg Fl.now ho2;exact this) (fun n=>rfl) rfl (fun x hx=>hx)
 · rw [begin_ok h1]
   exact ⟨ho2,hpw,rfl,rfl,rfl⟩
theorem TD.syncNames (h:TD TB N d) (hpw:d.power=true):TD TB (N+1) d.syncNames.1∧d.syncNames.1.names=d.names∧(∀ i,d.syncNames.1.file i=d.file i)∧(d.syncNames.2=0→d.syncNames.1.safe=d.names∧d.syncNames.1.changes=[]∧d.syncNames.1.power=true∧d.syncNames.1.plan=d.plan)∧(d.plan=[]→d.syncNames.2=0):=by
 have e:d.syncNames=d.begin (fun e=>{ e with safe:=e.names,changes:=[] }) (fun _ e=>e):=by
  unfold Dm.syncNames
  rw [if_neg (by rw [hpw];decide)]
 rw [e]
 refine ⟨begin_td (h.safed (d.acts+1) (Nat.succ_le_succ h.acts)) (fun n=>h.acted) h.acted,begin_kept (P:=fun x=>x.names=d.names) rfl (fun n=>rfl) rfl (fun x hx=>hx),fun i=>begin_kept (P:=fun x=>x.file i=d.file i) rfl (fun n=>rfl) rfl (fun x hx=>hx),fun h1=>?_,fun hc=>by rw [begin_calm hc]⟩
 rw [begin_ok h1]
 exact ⟨rfl,rfl,hpw,rfl⟩
theorem flatten_len (T:List (List UInt8)) (k:Nat) (h:∀ x ∈ T,x.length=k):T.flatten.length=T.length * k:=by
 induction T with
 | nil=>simp
 | cons x r ih =>
   rw [List.flatten_cons,List.length_append,h x List.mem_cons_self,ih fun y hy=>h y (List.mem_cons_of_mem _ hy),List.length_cons,Nat.add_mul];omega
structure Fs where
 held:Nat
 l0:Bool
 l1:Bool
def passedP (e:Int):Int:=if e=31 then 0 else e
def syncP2 (s:Fs) (d:Dm):Fs × Dm × Int :=
 if s.l1=true then (if d.syncNames.2=0 then ({ s with l1:=false },d.syncNames.1,0) else (s,d.syncNames.1,d.syncNames.2)) else (s,d,0)
def syncP (s:Fs) (d:Dm):Fs × Dm × Int :=
 if s.l0=true then (if (d.sync tlN).2=0 then syncP2 { s with l0:=false } (d.sync tlN).1 else (s,(d.sync tlN).1,(d.sync tlN).2)) else syncP2 s d
def layP (T:List (List UInt8)) (s:Fs) (d:Dm):Fs × Dm × Int :=
 if s.held=T.length then syncP s d
 else
  let p:=(T.drop s.held).flatten
  if (d.append tlN p).2=0 then syncP { s with held:=T.length,l0:=true } (d.append tlN p).1
  else ({ s with l0:=true },(d.append tlN p).1,passedP (d.append tlN p).2)
def cutP (T:List (List UInt8)) (n:Int) (s:Fs) (d:Dm):Fs × Dm × Int :=
 if (s.held * 8207:Nat) < n then
  (if (d.cut tlN (s.held * 8207:Nat)).2=0 then layP T { s with l0:=true } (d.cut tlN (s.held * 8207:Nat)).1 else ({ s with l0:=true },(d.cut tlN (s.held * 8207:Nat)).1,(d.cut tlN (s.held * 8207:Nat)).2))
 else layP T s d
def flushP (T:List (List UInt8)) (s:Fs) (d:Dm):Fs × Dm × Int :=
 if (d.length tlN).2=32∧T=[] then (s,d,0)
 else if (d.length tlN).2 ≠ 0∧(d.length tlN).2 ≠ 32 then (s,d,(d.length tlN).2)
 else if (d.length tlN).2=32 then
  (if (d.create tlN).2=0 then cutP T (d.length tlN).1 { s with l0:=true,l1:=true } (d.create tlN).1 else ({ s with l0:=true,l1:=true },(d.create tlN).1,passedP (d.create tlN).2))
 else cutP T (d.length tlN).1 s d
structure FsI (T:List (List UInt8)) (N:Nat) (s:Fs) (d:Dm):Prop where
 td:TD T.flatten N d
 le:s.held≤T.length
 named:∀ i,lk d.names tlN=some i→s.held * 8207≤(d.file i).now.length
 not_:lk d.names tlN=none→s.held=0
 safe:∀ i,lk d.names tlN=some i→s.l0=false→(d.file i).safe=(d.file i).now
 nm:s.l1=false→d.changes=[]∧d.safe=d.names
theorem FsI.mono {T:List (List UInt8)} {N M:Nat} {s:Fs} {d:Dm} (h:FsI T N s d) (hn:N≤M):FsI T M s d:=⟨h.td.mono (List.prefix_refl _) hn,h.le,h.named,h.not_,h.safe,h.nm⟩
theorem FsI.more {T T':List (List UInt8)} {N:Nat} {s:Fs} {d:Dm} (h:FsI T N s d) (ht:T <+: T'):FsI T' N s d:=by
 obtain ⟨t,rfl⟩:=ht
 exact ⟨h.td.mono (by rw [List.flatten_append];exact List.prefix_append _ _) (Nat.le_refl _),by rw [List.length_append];have:=h.le;omega,h.named,h.not_,h.safe,h.nm⟩
theorem length_t (hpw:d.power=true):d.length tlN=match lk d.names tlN with | none=>(0,32) | some i=>((d.file i).now.length,0):=by
 unfold Dm.length
 rw [ask_t hpw]
 cases lk d.names tlN <;> rfl
variable {TB : List UInt8} {N : Nat} {d : Dm}
theorem FsI.opened {T:List (List UInt8)} (h:TD T.flatten N d) (hl:∀ x ∈ T,x.length=8207) (hc:d.changes=[]) (hs:d.safe=d.names) (hf:∀ i,lk d.names tlN=some i→(d.file i).safe=(d.file i).now):FsI T N ⟨(d.bytesOf tlN).length / 8207,false,false⟩ d:=by
 refine ⟨h,?_,fun i hi=>?_,fun hn=>?_,fun i hi _=>hf i hi,fun _=>⟨hc,hs⟩⟩
 · show (d.bytesOf tlN).length / 8207≤_
   have:(d.bytesOf tlN).length≤T.flatten.length:=by
    cases e:lk d.names tlN with
    | none=>rw [bytesOf_none e];exact Nat.zero_le _
    | some i=>rw [bytesOf_some e];exact (h.file_at i).nowP.length_le
   rw [flatten_len _ 8207 hl] at this
   exact Nat.div_le_of_le_mul (by rw [Nat.mul_comm];exact this)
 · show (d.bytesOf tlN).length / 8207 * 8207≤_
   rw [bytesOf_some hi];exact Nat.div_mul_le_self _ _
 · show (d.bytesOf tlN).length / 8207=0
   rw [bytesOf_none hn,List.length_nil,Nat.zero_div]
end
end Go.Proofs.YtgkehahklccacaaGreatDoor
