import Derived.Test.YtgkehahklccacaaGreatDoorZ30
import Derived.Test.YtgkehahklccacaaGreatDoorZ41
import Derived.Test.YtgkehahklccacaaGreatDoorZ42
import Derived.Test.YtgkehahklccacaaGreatDoorZ27
import Derived.Test.YtgkehahklccacaaGreatDoorZ33
import Derived.Test.YtgkehahklccacaaGreatDoorCards
import Derived.Test.YtgkehahklccacaaGreatDoorTie
import Derived.ProofKit
import Derived.OpenShut
import Derived.Deep.DeepHandedRow
import Derived.Lib.LaidTab
import Derived.Lib.LaidU8
import Derived.Lib.SmallJoins
import Derived.SizedLaws
import Derived.MakeChecks
namespace Go.Proofs.YtgkehahklccacaaGreatDoor
open Go Go.RowKit
open Go.Lib (hid)
set_option maxRecDepth 100000
set_option maxHeartbeats 1000000
set_option linter.unusedVariables false
set_option linter.unusedSimpArgs false
section
open Go.Maps Go.WideMaps Go.ChangeMaps
section
variable {TB : List UInt8} {N sp : Nat} {d : Dm}
theorem kept_small (h:CalmT TB N d):d.kept=[]∨∃ x,d.kept=[(tlN,x)]∧x <+: TB:=by
 unfold Dm.kept
 rw [h.sf]
 rcases h.td.at_ with ⟨-,e⟩ | ⟨i,-,-,e⟩
 · rw [e];exact .inl rfl
 · rw [e];exact .inr ⟨(d.file i).safe,rfl,(h.td.file_at i).safeP⟩
def imgT (x:List UInt8):Dm:=⟨0,1099511627776,(x.length:Nat),0,true,[⟨x,x,[]⟩],[(tlN,0)],[(tlN,0)],[],[],[]⟩
theorem imgD_one (x:List UInt8) (hx:x.length≤1000000):imgD 1099511627776 [(tlN,x)] [tlN]=imgT x:=by
 have h1:lk [(tlN,x)] tlN=some x:=by simp [lk]
 have h2:wrap64 ((0:Int)+(x.length:Int))=(x.length:Int):=by rw [Int.zero_add];exact wrap64_small (by omega) (by omega)
 show imgStep [(tlN,x)] (Dm.new 1099511627776) tlN=_
 unfold imgStep imgT Dm.new
 simp only [h1,Option.getD_some,h2]
 rfl
theorem CalmT.image (x:List UInt8) (hx:x <+: TB) (hT:TB.length≤1000000):CalmT TB 1 (imgT x):=by
 have hl:=hx.length_le
 refine ⟨⟨rfl,.inr (.inr ⟨0,by show 0 < 1;decide,rfl,rfl,rfl⟩),Nat.le_refl _,fun f hf=>?_,rfl,Nat.zero_le _,Nat.zero_le _⟩,rfl,rfl,rfl,fun i hi=>?_⟩
 · obtain rfl:f=⟨x,x,[]⟩:=List.mem_singleton.1 hf
   exact ⟨show x.length≤_ by omega,rfl,fun n=>hx,Nat.zero_le _,fun u hu=>by cases hu⟩
 · have:i=0:=by
    have h:lk [(tlN,(0:Nat))] tlN=some i:=hi
    rw [lk_one,if_pos rfl] at h
    exact (Option.some.inj h).symm
   subst this
   exact ⟨rfl,rfl⟩
theorem CalmT.new1 (TB:List UInt8):CalmT TB 1 (Dm.new 1099511627776):=by
 have h:=CalmT.new TB
 exact ⟨h.td.mono (List.prefix_refl _) (Nat.zero_le _),h.pw,h.ch,h.sf,h.lo⟩
theorem image_calm {TB':List UInt8} (h:CalmT TB N d) (hT:TB <+: TB') (hT1:TB'.length≤1000000) :
 (∀ s x,lk d.kept s=some x→legalB (bs s)=true∧x.length≤10000000)∧d.kept.length≤4096∧(keysOf d.kept).Nodup∧CalmT TB' 1 (imgD 1099511627776 d.kept ((keysOf d.kept).mergeSort fun x y=>decide (x≤y))) ∧
   (imgD 1099511627776 d.kept ((keysOf d.kept).mergeSort fun x y=>decide (x≤y))).claims=[]∧(imgD 1099511627776 d.kept ((keysOf d.kept).mergeSort fun x y=>decide (x≤y))).plan=[]∧((imgD 1099511627776 d.kept ((keysOf d.kept).mergeSort fun x y=>decide (x≤y))).bytesOf tlN).length≤TB.length:=by
 have hl':=hT.length_le
 rcases kept_small h with e | ⟨x,e,hx⟩
 · rw [e]
   have e2:(imgD 1099511627776 ([]:List (Nm × List UInt8)) ((keysOf ([]:List (Nm × List UInt8))).mergeSort fun x y=>decide (x≤y)))=Dm.new 1099511627776:=by simp [imgD,keysOf]
   rw [e2]
   exact ⟨fun s x h=>(by cases h),Nat.zero_le _,List.nodup_nil,CalmT.new1 TB',rfl,rfl,Nat.zero_le _⟩
 · have hl:=hx.length_le
   rw [e]
   have e1:keysOf [(tlN,x)]=[tlN]:=rfl
   have e2:([tlN]:List Nm).mergeSort (fun x y=>decide (x≤y))=[tlN]:=by simp
   rw [e1,e2,imgD_one x (by omega)]
   refine ⟨fun s y hy=>?_,(by show 1≤4096;decide),List.nodup_cons.2 ⟨by simp,List.nodup_nil⟩,CalmT.image x (hx.trans hT) hT1,rfl,rfl,?_⟩
   · have hy:(if s=tlN then some x else lk ([]:List (Nm × List UInt8)) s)=some y:=hy
     split at hy
     · rename_i e;cases hy;subst e;exact ⟨tN_legal,by omega⟩
     · cases hy
   · have:(imgT x).bytesOf tlN=x:=rfl
     rw [this];exact hl
end
structure RM (W w:World) (L:Lay) (τ:Nat→Nat) (gt gd:Nat) (d:Dm) (T:TT) (Y:TY) (wd:Int) (ls:List Dg) (n gl sp N:Nat):Prop where
 bt:BT w L τ gt gd d T Y
 hb:Below W.heap.size W w
 lo:∀ k,k < W.heap.size→L.ρ k=0∧τ k=0
 ds:DS w (some ⟨gl,0,none⟩) n n ls
 gl0:L.ρ gl=0∧τ gl=0
 gls:gl < w.heap.size
 tl:T.L=ls
 tw:T.wd=wd
 hd:T.held=0
 lv:T.live d tlN=0
 sd:SD (T.tls.flatten.take sp) N sp d
section
variable {W w : World} {L : Lay} {τ : Nat → Nat} {gt gd : Nat} {d : Dm} {T : TT} {Y : TY} {wd : Int} {ls : List Dg} {n gl sp N : Nat}
theorem RM.below {w':World} (h:RM W w L τ gt gd d T Y wd ls n gl sp N) (hb:Below w.heap.size w w'):RM W w' L τ gt gd d T Y wd ls n gl sp N :=
 ⟨h.bt.below hb,h.hb.trans (hb.mono h.hb.size),h.lo,RS.below h.ds hb,h.gl0,Nat.lt_of_lt_of_le h.gls hb.size,h.tl,h.tw,h.hd,h.lv,h.sd⟩
theorem DS.one {w w':World} {gl n c:Nat} {ls:List Dg} (h:DS w (some ⟨gl,0,none⟩) n c ls) (hk:w'.heap[gl]?=w.heap[gl]?):DS w' (some ⟨gl,0,none⟩) n c ls :=
 RS.of_same h (fun x hx _=>by obtain rfl:=Option.some.inj hx;exact hk)
theorem RM.flush (h:RM W w L τ gt gd d T Y wd ls n gl sp N) (hN:N≤80000) (hl:ls.length≤20000) (h2:256≤ls.length) (hsp:sp≤8206) (ht:HalfTab W) (h4:4≤W.heap.size) :
 Calls Tryz.prog 12 #[.pointer (some ⟨gt,0,none⟩)] w fun e w'=>e=.returned .nilIface∧∃ L' d' T',RM W w' L' τ gt gd d' T' Y wd ls n gl sp (N+3):=by
 have hlen:1≤T.L.length / 256:=by rw [h.tl];omega
 have hne:T.tls ≠ []:=fun e=>by have:=tls_len T;rw [e] at this;simp at this;omega
 have hfl:sp < T.tls.flatten.length:=by rw [tls_flat];omega
 have hl':T.L.length≤20000:=by rw [h.tl];exact hl
 obtain ⟨hp2,s',d',e,hs,hsd⟩:=h.sd.flush hl' hN h.hd hne hfl
 have he:=flushP_ec T.tls T.fs d
 refine (flush_any w L τ gt gd d T Y h.bt (by rw [h.hd];exact Nat.zero_le _) (ht.below h.hb (by omega)) (h.lo 2 (by omega)).1 hp2).mono ?_
 rintro e1 w' ⟨v,rfl,h1,L',h3,h5⟩
 rw [flush_eq d T (by rw [h.hd];exact Nat.zero_le _) h.lv,e] at h1 h3
 obtain rfl:v=.nilIface:=((h1:TV v w' 0).resolve_right fun q=>q.1 rfl).2
 rw [e] at he
 refine ⟨rfl,L',d',T.put s',⟨h3,?_,fun k hk=>⟨h5.extL.old k (Nat.lt_of_lt_of_le hk h.hb.size) (h.lo k hk).1,h5.extT.old k (Nat.lt_of_lt_of_le hk h.hb.size) (h.lo k hk).2⟩,h.ds.one (h5.block gl h.gls h.gl0.1 h.gl0.2),⟨h5.extL.old gl h.gls h.gl0.1,h5.extT.old gl h.gls h.gl0.2⟩,Nat.lt_of_lt_of_le h.gls h5.size,h.tl,h.tw,hs,?_,hsd⟩⟩
 · exact ⟨h5.os.trans h.hb.os,h5.tape.trans h.hb.tape,h5.output.trans h.hb.output,Nat.le_trans h.hb.size h5.size,fun k hk=>(h5.block k (Nat.lt_of_lt_of_le hk h.hb.size) (h.lo k hk).1 (h.lo k hk).2).trans (h.hb.block k hk)⟩
 · exact live_ec (T':=T.put s') h.lv he hsd.pw rfl rfl
theorem RM.flushed (h:RM W w L τ gt gd d T Y wd ls n gl sp N):Calls Tryz.prog 19 #[.pointer (some ⟨gt,0,none⟩)] w fun e w'=>e=.returned (.int .i64 0)∧Below w.heap.size w w':=by
 have:=flushed_any w τ gt gd T Y h.bt.t (by rw [h.hd];exact Nat.zero_le _)
 rw [h.hd] at this
 exact this
theorem RM.answers (h:RM W w L τ gt gd d T Y wd ls n gl sp N) (ht:RoundTab W) (htz:TabAt 1 Lib.deBruijn64tab W) (h4:4≤W.heap.size) (size old i:Nat) (hos:old≤size) (hsl:size≤n) (hi:i < size) :
 Calls Tryz.prog 33 #[.pointer (some ⟨gt,0,none⟩),.int .i64 wd,.slice (some ⟨gl,0,none⟩) n n,.int .i64 (size:Int),.int .i64 (old:Int),.int .i64 (i:Int)] w (AnRet w):=by
 have hln:=h.ds.1
 rw [← h.tw]
 exact answers_any w L τ gt gd d T Y h.bt h.lv (rt_below ht h.hb (by omega)) (tab_below htz h.hb (by omega)) _ n n (by rw [h.tl];exact h.ds) size old i hos (by rw [h.tl];omega) (fun _=>⟨i,rfl,hi⟩)
end
theorem ns_of {w:World} {ρ:Nat→Nat} {B n c:Nat} {a:Option Addr} {l:List Nat} (h:w.ownsRow B 3 1 (.slice a n c) n (l.map nV)) (h0:∀ k,B≤k→ρ k=0) (hb:∀ x ∈ l,x≤9223372036854775806):NsAt w ρ a n (l.map fun (x:Nat)=>(x:Int)):=by
 have hl:l.length=n:=by have:=h.1;simpa using this
 refine ⟨by rw [List.length_map];exact hl,fun j x hx=>?_⟩
 rw [List.getElem?_map] at hx
 cases hj:l[j]? with
 | none=>rw [hj] at hx;cases hx
 | some y =>
   rw [hj] at hx
   obtain rfl:(y:Int)=x:=by simpa using hx
   obtain ⟨a0,c0,hv,hg⟩:=owns_shape h
   obtain ⟨rfl,-,rfl⟩:=Value.slice.inj hv
   have hjl:=(List.getElem?_eq_some_iff.1 hj).1
   obtain ⟨g,rfl,-,-⟩:=hg (by omega)
   have he:l.map nV=l.flatMap fun x=>[nV x]:=List.map_eq_flatMap
   have hlt:=h.lt g rfl
   rw [he] at h
   have:=own_at (enc:=fun x=>[nV x]) (s:=1) (fun _=>rfl) h hj 0 _ rfl
   have hy:=hb y (List.mem_of_getElem? hj)
   exact ⟨g,0,rfl,by simpa [nV] using this,h0 g hlt.1,by omega,by omega⟩
end
section
open Go.Maps Go.WideMaps Go.ChangeMaps
noncomputable def tr0:Code:=Tryz.f7.body.getD .skip
def RoomRet (W:World) (e:Ending) (w':World):Prop:=e=.returned (.bool true)∧Below W.heap.size W w'
theorem wi_nat (x:Int) (lo hi:Nat) (h:lo≤hi):∃ k:Nat,(k:Int)=wiP x lo hi∧lo≤k∧k≤hi:=by
 have:=wiP_le x lo hi (by omega)
 exact ⟨(wiP x lo hi).toNat,by omega,by omega,by omega⟩
theorem RM.start {W w w':World} {L:Lay} {τ:Nat→Nat} {gt gd gl n sp:Nat} {Y:TY} {wd:Int} {ls:List Dg} (hb:Below W.heap.size W w) (hlo:∀ k,k < W.heap.size→L.ρ k=0) (hds:DS w (some ⟨gl,0,none⟩) n n ls) (hgl:L.ρ gl=0) (hgls:gl < w.heap.size)
 (h:BT w' L τ gt gd ((Dm.new sp).claim tlN) ⟨(Dm.new sp).epoch,(Dm.new sp).claimOf tlN+1,wd,0,looseB (Dm.new sp),looseB (Dm.new sp),ls⟩ Y) (hu:Upd L.ρ L.ρ w w') (hn:∀ k,τ k ≠ 0→w.heap.size≤k) :
 ∃ T,RM W w' L τ gt gd ((Dm.new sp).claim tlN) T Y wd ls n gl sp 0:=by
 have hτ:∀ k,k < w.heap.size→τ k=0:=fun k hk=>by
  rcases Nat.eq_zero_or_pos (τ k) with e | e
  · exact e
  · have:=hn k (by omega);omega
 exact ⟨_,h,⟨hu.os.trans hb.os,hu.tape.trans hb.tape,hu.output.trans hb.output,Nat.le_trans hb.size hu.size,fun k hk=>(hu.block k (Nat.lt_of_lt_of_le hk hb.size) (hlo k hk)).trans (hb.block k hk)⟩,fun k hk=>⟨hlo k hk,hτ k (Nat.lt_of_lt_of_le hk hb.size)⟩,hds.one (hu.block gl hgls hgl),⟨hgl,hτ gl hgls⟩,Nat.lt_of_lt_of_le hgls hu.size,rfl,rfl,rfl,live_fresh (Dm.new sp) rfl wd 0 _ _ ls,(SD.new _ sp).claimed tlN⟩
theorem held_zero {w:World} {L:Lay} {τ:Nat→Nat} {gt gd:Nat} {d:Dm} {T:TT} {Y:TY} {wd:Int} {ls:List Dg} {N:Nat} (h:XI w L τ gt gd d T Y wd ls N) (hs:(d.bytesOf tlN).length≤8206):T.held=0:=by
 cases hn:lk d.names tlN with
 | none=>exact h.fi.not_ hn
 | some i =>
   have h1:T.held * 8207≤(d.file i).now.length:=h.fi.named i hn
   rw [bytesOf_some hn] at hs
   omega
set_option maxHeartbeats 16000000
theorem room_go (W:World) (n0:Int) (a0:-9223372036854775808≤n0) (c0:n0≤9223372036854775807) (n1:Int) (a1:-9223372036854775808≤n1) (c1:n1≤9223372036854775807) (n2:Int) (a2:-9223372036854775808≤n2) (c2:n2≤9223372036854775807) (n3:Int) (a3:-9223372036854775808≤n3) (c3:n3≤9223372036854775807) (n4:Int) (a4:-9223372036854775808≤n4) (c4:n4≤9223372036854775807) (n5:Int) (a5:-9223372036854775808≤n5) (c5:n5≤9223372036854775807) (n6:Int) (a6:-9223372036854775808≤n6) (c6:n6≤9223372036854775807) (ht:HalfTab W∧RoundTab W∧TabAt 1 Lib.deBruijn64tab W∧4≤W.heap.size) :
 Calls Tryz.prog 7 #[.int .i64 n0,.int .i64 n1,.int .i64 n2,.int .i64 n3,.int .i64 n4,.int .i64 n5,.int .i64 n6] W (RoomRet W):=by
 obtain ⟨n,hn,hn1,hn2⟩:=wi_nat n1 256 1500 (by decide)
 obtain ⟨sp,hsp,hsp1,hsp2⟩:=wi_nat n2 0 8206 (by decide)
 obtain ⟨wd,hwd⟩:∃ wd,wd=wiP n3 1 32:=⟨_,rfl⟩
 have hwdb:1≤wd∧wd≤32:=by rw [hwd];exact wiP_le n3 1 32 (by decide)
 obtain ⟨size,hsz,hsz1,hsz2⟩:=wi_nat n4 1 n (by omega)
 obtain ⟨old,hol,hol1,hol2⟩:=wi_nat n5 0 size (by omega)
 obtain ⟨i,hi,hi1,hi2⟩:=wi_nat n6 0 (size - 1) (by omega)
 have W1:=hid (fun w=>within_any w n1 256 1500 a1 c1 (by decide) (by decide) (by decide))
 have W2:=hid (fun w=>within_any w n2 0 8206 a2 c2 (by decide) (by decide) (by decide))
 have W3:=hid (fun w=>within_any w n3 1 32 a3 c3 (by decide) (by decide) (by decide))
 have W4:=hid (fun w=>within_any w n4 1 (n:Int) a4 c4 (by decide) (by omega) (by omega))
 have W5:=hid (fun w=>within_any w n5 0 (size:Int) a5 c5 (by decide) (by omega) (by omega))
 have W6:=hid (fun w=>within_any w n6 0 (((size - 1:Nat):Nat):Int) a6 c6 (by decide) (by omega) (by omega))
 have hs1:(((size - 1:Nat):Nat):Int)=(size:Int) - 1:=by omega
 rw [← show (n:Int)=wiP n1 256 1500 from hn] at W1
 rw [← show (sp:Int)=wiP n2 0 8206 from hsp] at W2
 rw [← hwd] at W3
 rw [← show (size:Int)=wiP n4 1 n from hsz] at W4
 rw [← show (old:Int)=wiP n5 0 size from hol] at W5
 rw [← show (i:Int)=wiP n6 0 ((size - 1:Nat):Nat) from hi,hs1] at W6
 have hs6:size≤1500:=by omega
 have HX:=hid (show 256≤n∧n≤1500∧sp≤8206∧(1≤wd∧wd≤32)∧1≤size∧size≤n∧old≤size∧i < size by omega)
 have HT:=hid ht
 have HRW:=hid (row_any W n0 n (by omega))
 clear hn hn1 hn2 hsp hsp1 hsp2 hwd hwdb hsz hsz1 hsz2 hol hol1 hol2 hi hi1 hi2 hs1 a0 c0 a1 c1 a2 c2 a3 c3 a4 c4 a5 c5 a6 c6 ht
 go_enter Tryz.func7,Tryz.ntmps7
 refine wp_two_k (c:=tr0) ⟨_,_,rfl⟩ fun K hK=>?_
 have HK:=hid hK
 clear hK
 conv=>arg 2;whnf
 go_wp2_with fail
 refine HK.out _ _ ?_
 clear HK K
 refine wp_two_k (c:=dropSeq 1 tr0) ⟨_,_,rfl⟩ fun K hK=>?_
 have HK:=hid hK
 clear hK
 conv=>arg 2;whnf
 go_wp2_with (go_at_call 8;(with_reducible refine (W1.out _).mono ?_);rintro e wx ⟨rfl,hw⟩;have hw:=hw.symm;subst hw)
 refine HK.out _ _ ?_
 clear HK K
 rw [dropSeq_succ]
 refine wp_two_k (c:=dropSeq 2 tr0) ⟨_,_,rfl⟩ fun K hK=>?_
 have HK:=hid hK
 clear hK
 conv=>arg 2;whnf
 go_wp2_with (go_at_call 8;(with_reducible refine (W2.out _).mono ?_);rintro e wx ⟨rfl,hw⟩;have hw:=hw.symm;subst hw)
 refine HK.out _ _ ?_
 clear HK K
 rw [dropSeq_succ]
 refine wp_two_k (c:=dropSeq 3 tr0) ⟨_,_,rfl⟩ fun K hK=>?_
 have HK:=hid hK
 clear hK
 conv=>arg 2;whnf
 go_wp2_with (go_at_call 9;refine HRW.out.mono ?_;rintro e w1 ⟨gl,ls,rfl,hgl,hll,hds,hgw,hb1⟩;have HGL:=hid (And.intro hgl hgw);have HLL:=hid hll;have HDS:=hid hds;have HB1:=hid hb1;clear hgl hll hds hgw hb1)
 refine HK.out _ _ ?_
 clear HK K
 rw [dropSeq_succ]
 refine wp_two_k (c:=dropSeq 4 tr0) ⟨_,_,rfl⟩ fun K hK=>?_
 have HK:=hid hK
 clear hK
 conv=>arg 2;whnf
 go_wp2_with (go_at_call 8;(with_reducible refine (W3.out _).mono ?_);rintro e wx ⟨rfl,hw⟩;have hw:=hw.symm;subst hw)
 refine HK.out _ _ ?_
 clear HK K
 rw [dropSeq_succ]
 refine wp_two_k (c:=dropSeq 5 tr0) ⟨_,_,rfl⟩ fun K hK=>?_
 have HK:=hid hK
 clear hK
 conv=>arg 2;whnf
 go_wp2_with (go_at_call 8;(with_reducible refine (W4.out _).mono ?_);rintro e wx ⟨rfl,hw⟩;have hw:=hw.symm;subst hw)
 refine HK.out _ _ ?_
 clear HK K
 rw [dropSeq_succ]
 refine wp_two_k (c:=dropSeq 6 tr0) ⟨_,_,rfl⟩ fun K hK=>?_
 have HK:=hid hK
 clear hK
 conv=>arg 2;whnf
 go_wp2_with (go_at_call 8;(with_reducible refine (W5.out _).mono ?_);rintro e wx ⟨rfl,hw⟩;have hw:=hw.symm;subst hw)
 refine HK.out _ _ ?_
 clear HK K
 rw [dropSeq_succ]
 refine wp_two_k (c:=dropSeq 7 tr0) ⟨_,_,rfl⟩ fun K hK=>?_
 have HK:=hid hK
 clear hK
 conv=>arg 2;whnf
 go_wp2_with (go_at_call 8;(with_reducible refine (W6.out _).mono ?_);rintro e wx ⟨rfl,hw⟩;have hw:=hw.symm;subst hw)
 refine HK.out _ _ ?_
 clear HK K
 rw [dropSeq_succ]
 have HN:=hid (newdisk_any w1 (sp:Int) (by omega) (by have:=HX.out;omega))
 refine wp_two_k (c:=dropSeq 8 tr0) ⟨_,_,rfl⟩ fun K hK=>?_
 have HK:=hid hK
 clear hK
 conv=>arg 2;whnf
 go_wp2_with (go_at_call 10;refine HN.out.mono ?_;rintro e w2 ⟨hb2,L0,gd,rfl,hd2,hlo2⟩;have HB2:=hid hb2;have HD2:=hid hd2;have HLO2:=hid hlo2;clear hb2 hd2 hlo2)
 refine HK.out _ _ ?_
 clear HK K
 rw [dropSeq_succ]
 refine wp_two_k (c:=dropSeq 9 tr0) ⟨_,_,rfl⟩ fun K hK=>?_
 have HK:=hid hK
 clear hK
 conv=>arg 2;whnf
 go_wp2_with fail
 refine HK.out _ _ ?_
 clear HK K
 rw [dropSeq_succ]
 have hb12:Below W.heap.size W w2:=HB1.out.trans (HB2.out.mono HB1.out.size)
 have hds2:=RS.below HDS.out HB2.out
 have HOV:=hid (show Calls Tryz.prog 11 #[.pointer (some ⟨gd,0,none⟩),.int .i64 wd,.slice (some ⟨gl,0,none⟩) n n,.int .i64 0] w2 (fun e w'=>∃ gt τ Y T,e=.returned (.pointer (some ⟨gt,0,none⟩))∧RM W w' L0 τ gt gd ((Dm.new sp).claim tlN) T Y wd ls n gl sp 0) by
  have hX:=HX.out;have hT:=HT.out
  have hwh:wholeD (Dm.new sp)=([],0):=by
   unfold wholeD
   rw [length_t (d:=Dm.new sp) rfl]
   rfl
  have hlen:(Dm.new sp).length tlN=(0,32):=by rw [length_t (d:=Dm.new sp) rfl];rfl
  have:=over_any w2 L0 gd (Dm.new sp) HD2.out ((SD.new [] sp).pre (by decide) (by decide)) rfl (fun i hi=>absurd hi (Nat.not_lt_zero i)) (by show 0 < 1000000;decide) ⟨by show -4611686018427387904≤(0:Int);decide,by show (0:Int)≤4611686018427387904;decide⟩ wd hX.2.2.2.1 ls (some ⟨gl,0,none⟩) n n 0 hds2 (by omega) (Nat.zero_le _) 0 (Nat.zero_le _) [] (by rw [hwh];rfl) (by rw [hwh]) (by rw [hlen];decide) (by rw [hlen];decide) (by rw [hwh];show 0≤_;exact Nat.zero_le _) (fun q=>absurd q (Nat.not_lt_zero _)) (hT.1.below hb12 (by omega)) (rt_below hT.2.1 hb12 (by omega)) (by have:=hb12.size;omega) (HLO2.out 3 (by have:=HB1.out.size;omega)) (fun b off e _=>by cases e;exact HLO2.out gl HGL.out.2)
  refine this.mono ?_
  rintro e w' ⟨gt,τ,Y,rfl,hbt,hu,hn⟩
  obtain ⟨T,hrm⟩:=RM.start hb12 (fun k hk=>HLO2.out k (by have:=HB1.out.size;omega)) hds2 (HLO2.out gl HGL.out.2) (by have:=HB2.out.size;have:=HGL.out;omega) hbt hu hn
  exact ⟨gt,τ,Y,T,rfl,hrm⟩)
 clear hb12 hds2
 refine wp_two_k (c:=dropSeq 10 tr0) ⟨_,_,rfl⟩ fun K hK=>?_
 have HK:=hid hK
 clear hK
 conv=>arg 2;whnf
 go_wp2_with (go_at_call 11;refine HOV.out.mono ?_;rintro e w3 ⟨gt,τ,Y,T,rfl,hrm⟩;have HRM:=hid hrm;clear hrm)
 refine HK.out _ _ ?_
 clear HK K
 rw [dropSeq_succ]
 refine wp_two_k (c:=dropSeq 11 tr0) ⟨_,_,rfl⟩ fun K hK=>?_
 have HK:=hid hK
 clear hK
 conv=>arg 2;whnf
 go_wp2_with fail
 refine HK.out _ _ ?_
 clear HK K
 rw [dropSeq_succ]
 refine wp_two_k (c:=dropSeq 12 tr0) ⟨_,_,rfl⟩ fun K hK=>?_
 have HK:=hid hK
 clear hK
 conv=>arg 2;whnf
 go_wp2_with fail
 go_loopw [20] (fun v wr=>∃ (k N:Nat) (L':Lay) (d':Dm) (T':TT),k≤3∧v=.int .i64 (k:Int)∧N≤3 * k∧RM W wr L' τ gt gd d' T' Y wd ls n gl sp N) (fun v _=>3 - (intOf v).toNat)
 case atStart=>exact ⟨0,0,L0,_,T,Nat.zero_le _,rfl,Nat.zero_le _,HRM.out⟩
 case round =>
  obtain ⟨k,N,L',d',T',hk,rfl,hN,hrm⟩:=hrel
  have HRK:=hid hrm
  have HNK:=hid (And.intro hN hk)
  by_cases hlt:k < 3
  · have hX:=HX.out;have hT:=HT.out
    have HFL:=hid (hrm.flush (by omega) (by rw [HLL.out];omega) (by rw [HLL.out];omega) hX.2.2.1 hT.1 hT.2.2.2)
    have h9:decide ((k:Int) < 3)=true:=by simp;omega
    have h8:decide (k < 3)=true:=by simp;omega
    have hk3:k≤3:=hk
    have HLT:=hid hlt
    clear hk hN hrm hlt hX hT
    go_wp2_with (first
     | (go_at_call 12;refine HFL.out.mono ?_;rintro e w4 ⟨rfl,L4,d4,T4,hrm4⟩;have HR4:=hid hrm4;clear hrm4)
     | (go_at_call 19;refine HR4.out.flushed.mono ?_;rintro e w5 ⟨rfl,hb5⟩;have HR5:=hid (HR4.out.below hb5);clear hb5)
     | (go_at_call 33;refine (HR5.out.answers HT.out.2.1 HT.out.2.2.1 HT.out.2.2.2 size old i HX.out.2.2.2.2.2.2.1 HX.out.2.2.2.2.2.1 HX.out.2.2.2.2.2.2.2).mono ?_;rintro e w6 ⟨rfl,hb6⟩;have HR6:=hid (HR5.out.below hb6);clear hb6))
    refine ⟨⟨k+1,N+3,L4,d4,T4,HLT.out,by push_cast;rfl,by have:=HNK.out;omega,HR6.out⟩,?_⟩
    have:=HLT.out
    simp [intOf];omega
  · obtain rfl:k=3:=by omega
    clear hk hlt hN hrm
    go_wp2_with fail
    refine HK.out _ _ ?_
    clear HK
    rw [dropSeq_succ]
    have hX:=HX.out;have hT:=HT.out
    have h:=HRK.out
    have hl2:ls.length≤20000:=by rw [HLL.out];omega
    have htq:T'.tls.flatten=tqF wd ls:=by rw [tls_tqF,h.tw,h.tl]
    have hqT:(tqF wd ls).length≤1000000:=by rw [tqF_len,HLL.out];omega
    obtain ⟨TB,hTB⟩:∃ TB,TB=T'.tls.flatten.take sp:=⟨_,rfl⟩
    have hsd:=h.sd
    rw [← hTB] at hsd
    have hTl:TB.length≤8206:=by rw [hTB,List.length_take];omega
    have hTq:TB <+: tqF wd ls:=by rw [hTB,htq];exact List.take_prefix _ _
    have hN9:=HNK.out
    have hpre:=hsd.pre (by omega) (by omega)
    have hun:∀ i,(d'.file i).units≤9223372036854775806:=fun i=>(hsd.td.file_at i).units (by omega) (by omega)
    have HLS:=hid (loose_any wr L' gd d' h.bt.d hpre (fun i _=>hun i))
    obtain ⟨dr,hdr⟩:∃ dr,dr=d'.restart (d'.changes.length:Int) (d'.loose.2.map fun (x:Nat)=>(x:Int)):=⟨_,rfl⟩
    have HRS:=hid (fun (w4:World) (hb:Below wr.heap.size wr w4) (a:Option Addr) (c:Nat) (ho:w4.ownsRow wr.heap.size 3 1 (.slice a d'.reach.length c) d'.reach.length (d'.loose.2.map nV))=>show Calls Tryz.prog 16 #[.pointer (some ⟨gd,0,none⟩),.agg #[.slice a d'.reach.length c,.int .i64 (d'.changes.length:Int)]] w4 (fun e w'=>e=.returned (.tuple #[])∧∃ L'',DAt w' L'' gd dr∧Upd L'.ρ L''.ρ w4 w') by
     rw [hdr]
     have hch:=hpre.chl
     exact restart_any w4 L' gd d' (h.bt.d.below hb) hpre (hsd.td.fine (by omega)) hsd.td.okc a d'.reach.length c (d'.changes.length:Int) (by omega) (by omega) _ (ns_of ho (fun k hk=>h.bt.d.new k hk) (fun x hx=>by
      obtain ⟨i,-,rfl⟩:=List.mem_map.1 hx
      exact hun i)))
    have hcr:CalmT TB (N+1) (d'.big.restart (d'.changes.length:Int) (d'.loose.2.map fun (x:Nat)=>(x:Int))):=CalmT.restart hsd.td (by omega) _ _
    have hprr:Pre dr:=by rw [hdr];exact pre_big (d:=d'.restart (d'.changes.length:Int) (d'.loose.2.map fun (x:Nat)=>(x:Int))) (hcr.td.pre (by omega) (by omega))
    have him:=image_calm hcr hTq hqT
    have hkk:(d'.big.restart (d'.changes.length:Int) (d'.loose.2.map fun (x:Nat)=>(x:Int))).kept=dr.kept:=by rw [hdr];rfl
    rw [hkk] at him
    obtain ⟨D2,hD2⟩:∃ D2,D2=imgD 1099511627776 dr.kept ((keysOf dr.kept).mergeSort fun x y=>decide (x≤y)):=⟨_,rfl⟩
    rw [← hD2] at him
    have HIM:=hid him
    have HPRR:=hid hprr;have HD2E:=hid hD2;have HTL:=hid hTl;have HTQ:=hid hqT;have HL2:=hid hl2
    clear hX hT h hl2 htq hqT hTB hsd hTl hTq hN9 hpre hun hdr hcr hprr him hkk hD2
    refine wp_two_k (c:=dropSeq 13 tr0) ⟨_,_,rfl⟩ fun K hK=>?_
    have HK:=hid hK
    clear hK
    conv=>arg 2;whnf
    go_wp2_with (first
     | (go_at_call 35;refine HLS.out.mono ?_;rintro e w4 ⟨hb4,a4,c4,rfl,ho4⟩;have HB4:=hid hb4;have HO4:=hid ho4;clear hb4 ho4)
     | (go_at_call 16;refine (HRS.out w4 HB4.out a4 c4 HO4.out).mono ?_;rintro e w5 ⟨rfl,L5,hd5,hu5⟩;have HD5:=hid hd5;have HU5:=hid hu5;clear hd5 hu5))
    refine HK.out _ _ ?_
    clear HK K
    rw [dropSeq_succ]
    have h4:=HRK.out.below HB4.out
    have hu5:=HU5.out
    have HBW5:=hid (show Below W.heap.size W w5 from ⟨hu5.os.trans h4.hb.os,hu5.tape.trans h4.hb.tape,hu5.output.trans h4.hb.output,Nat.le_trans h4.hb.size hu5.size,fun k hk=>(hu5.block k (Nat.lt_of_lt_of_le hk h4.hb.size) (h4.lo k hk).1).trans (h4.hb.block k hk)⟩)
    have HDS5:=hid (h4.ds.one (hu5.block gl h4.gls h4.gl0.1))
    have HGL5:=hid (show gl < w5.heap.size from Nat.lt_of_lt_of_le h4.gls hu5.size)
    have HKP:=hid (kept_any w5 L5 gd dr HD5.out HPRR.out)
    have HIMG:=hid (fun (w6:World) (b:Nat) (hK:KAt w6 w5.heap.size b dr.kept)=>show Calls Tryz.prog 34 #[.map (some b),.int .i64 1099511627776] w6 (fun e w'=>Below w6.heap.size w6 w'∧∃ L gd,e=.returned (.tuple #[.pointer (some ⟨gd,0,none⟩),.nilIface])∧DAt w' L gd D2∧∀ k,k < w6.heap.size→L.ρ k=0) by
     rw [HD2E.out]
     exact image_any w6 w5.heap.size b dr.kept hK HIM.out.1 HIM.out.2.1 HIM.out.2.2.1 _ rfl)
    clear h4 hu5
    refine wp_two_k (c:=dropSeq 14 tr0) ⟨_,_,rfl⟩ fun K hK=>?_
    have HK:=hid hK
    clear hK
    conv=>arg 2;whnf
    go_wp2_with (first
     | (go_at_call 18;refine HKP.out.mono ?_;rintro e w6 ⟨hb6,b6,rfl,hk6⟩;have HB6:=hid hb6;have HK6:=hid hk6;clear hb6 hk6)
     | (go_at_call 34;refine (HIMG.out w6 b6 HK6.out).mono ?_;rintro e w7 ⟨hb7,L7,gd2,rfl,hd7,hl7⟩;have HB67:=hid hb7;have HD7:=hid hd7;have HL7:=hid hl7;clear hb7 hd7 hl7))
    refine HK.out _ _ ?_
    clear HK K
    rw [dropSeq_succ]
    refine wp_two_k (c:=dropSeq 15 tr0) ⟨_,_,rfl⟩ fun K hK=>?_
    have HK:=hid hK
    clear hK
    conv=>arg 2;whnf
    go_wp2_with fail
    refine HK.out _ _ ?_
    clear HK K
    rw [dropSeq_succ]
    have HB57:=hid (HB6.out.trans (HB67.out.mono HB6.out.size))
    have HBW7:=hid (HBW5.out.trans (HB57.out.mono HBW5.out.size))
    have HDS7:=hid (RS.below HDS5.out HB57.out)
    have hgl6:gl < w6.heap.size:=Nat.lt_of_lt_of_le HGL5.out HB6.out.size
    have hW6:W.heap.size≤w6.heap.size:=Nat.le_trans HBW5.out.size HB6.out.size
    have HLO7:=hid (show (∀ k,k < W.heap.size→L7.ρ k=0)∧L7.ρ gl=0 from ⟨fun k hk=>HL7.out k (by omega),HL7.out gl hgl6⟩)
    have hcl:D2.claimOf tlN=0:=by unfold Dm.claimOf;rw [HIM.out.2.2.2.2.1];rfl
    have HOV2:=hid (over_x (ls:=ls) (wd:=wd) (N:=1) HD7.out HIM.out.2.2.2.1 (by decide) (by rw [HIM.out.2.2.2.2.1];exact Nat.zero_le _) (by rw [hcl];exact ⟨Int.le_refl _,by decide⟩) HX.out.2.2.2.1 HL2.out HDS7.out (HT.out.1.below HBW7.out (by have:=HT.out;omega)) (rt_below HT.out.2.1 HBW7.out (by have:=HT.out;omega)) (by have:=HBW7.out.size;have:=HT.out;omega) (HLO7.out.1 3 (by have:=HT.out;omega)) (fun b off e _=>by cases e;exact HLO7.out.2))
    clear hgl6 hW6 hcl
    refine wp_two_k (c:=dropSeq 16 tr0) ⟨_,_,rfl⟩ fun K hK=>?_
    have HK:=hid hK
    clear hK
    conv=>arg 2;whnf
    go_wp2_with (go_at_call 11;refine HOV2.out.mono ?_;rintro e w8 ⟨gt2,τ2,T2,Y2,rfl,hxi,hu,hnw⟩;have HXI:=hid hxi;have HU8:=hid hu;have HNW:=hid hnw;clear hxi hu hnw)
    refine HK.out _ _ ?_
    clear HK K
    rw [dropSeq_succ]
    have hu8:=HU8.out
    have HBW8:=hid (show Below W.heap.size W w8 from ⟨hu8.os.trans HBW7.out.os,hu8.tape.trans HBW7.out.tape,hu8.output.trans HBW7.out.output,Nat.le_trans HBW7.out.size hu8.size,fun k hk=>(hu8.block k (Nat.lt_of_lt_of_le hk HBW7.out.size) (HLO7.out.1 k hk)).trans (HBW7.out.block k hk)⟩)
    have hgl7:gl < w7.heap.size:=Nat.lt_of_lt_of_le HGL5.out HB57.out.size
    have HDS8:=hid (DS.one HDS7.out (hu8.block gl hgl7 HLO7.out.2))
    have hτ:∀ k,k < w7.heap.size→τ2 k=0:=fun k hk=>by
     rcases Nat.eq_zero_or_pos (τ2 k) with e | e
     · exact e
     · have:=HNW.out k (by omega);omega
    have HTA:=hid (show (∀ k,k < W.heap.size→τ2 k=0)∧τ2 gl=0∧gl < w8.heap.size from ⟨fun k hk=>hτ k (Nat.lt_of_lt_of_le hk HBW7.out.size),hτ gl hgl7,Nat.lt_of_lt_of_le hgl7 hu8.size⟩)
    have hh0:=held_zero HXI.out (show ((D2.claim tlN).bytesOf tlN).length≤8206 from Nat.le_trans HIM.out.2.2.2.2.2.2 HTL.out)
    have HF1:=hid (show Calls Tryz.prog 19 #[.pointer (some ⟨gt2,0,none⟩)] w8 (fun e w'=>e=.returned (.int .i64 0)∧Below w8.heap.size w8 w') by
     have:=flushed_any w8 τ2 gt2 gd2 T2 Y2 HXI.out.bt.t HXI.out.held
     rw [hh0] at this
     exact this)
    have hen:=HXI.out.fi.ended (tls_each T2) (HXI.out.flat HL2.out) HXI.out.pw (show (D2.claim tlN).plan=[] from HIM.out.2.2.2.2.2.1)
    obtain ⟨r,hr⟩:∃ r,r=flushP T2.tls T2.fs (D2.claim tlN):=⟨_,rfl⟩
    rw [← hr] at hen
    obtain ⟨nd,hnd⟩:∃ nd,nd=n / 256:=⟨_,rfl⟩
    obtain ⟨fl,hfl⟩:∃ fl,fl=256 * nd:=⟨_,rfl⟩
    have hheld:(T2.put r.1).held=nd:=by show r.1.held=nd;rw [hen.2.1,tls_len,HXI.out.tl,HLL.out,hnd]
    have HFL2:=hid (fun (w9:World) (hb:Below w8.heap.size w8 w9)=>show Calls Tryz.prog 12 #[.pointer (some ⟨gt2,0,none⟩)] w9 (fun e w'=>e=.returned .nilIface∧∃ L',XI w' L' τ2 gt2 gd2 r.2.1 (T2.put r.1) Y2 wd ls 7∧UB L7 τ2 L' τ2 w9 w') by
     have hx9:=HXI.out.below hb
     have hbw9:=HBW8.out.trans (hb.mono HBW8.out.size)
     refine (hx9.flush (by decide) HL2.out (HT.out.1.below hbw9 (by have:=HT.out;omega)) (HLO7.out.1 2 (by have:=HT.out;omega))).mono ?_
     rintro e w' ⟨v,L',rfl,hv,hbt,hub⟩
     rw [← hr] at hv hbt
     rw [hen.1] at hv
     obtain rfl:v=.nilIface:=(hv.resolve_right fun q=>q.1 rfl).2
     refine ⟨rfl,L',?_,hub⟩
     have:=hx9.flushed HL2.out (L':=L') (w':=w') (by rw [← hr];exact hbt) (by rw [← hr];exact hen.2.2.2.1)
     rwa [← hr] at this)
    have HEND:=hid (fun (w10:World) (L':Lay) (hx:XI w10 L' τ2 gt2 gd2 r.2.1 (T2.put r.1) Y2 wd ls 7) (hbw:Below W.heap.size W w10) (hds:DS w10 (some ⟨gl,0,none⟩) n n ls)=>show Calls Tryz.prog 33 #[.pointer (some ⟨gt2,0,none⟩),.int .i64 wd,.slice (some ⟨gl,0,none⟩) n n,.int .i64 (size:Int),.int .i64 (old:Int),.int .i64 (i:Int)] w10 (AnRet w10) by
     have hX:=HX.out
     have h1:=hx.tw
     rw [← h1]
     exact answers_any w10 L' τ2 gt2 gd2 r.2.1 (T2.put r.1) Y2 hx.bt hx.lv (rt_below HT.out.2.1 hbw (by have:=HT.out;omega)) (tab_below HT.out.2.2.1 hbw (by have:=HT.out;omega)) _ n n (by rw [hx.tl];exact hds) size old i hX.2.2.2.2.2.2.1 (by rw [hx.tl,HLL.out];exact hX.2.2.2.2.2.1) (fun _=>⟨i,rfl,hX.2.2.2.2.2.2.2⟩))
    have HF2:=hid (fun (w10:World) (L':Lay) (hx:XI w10 L' τ2 gt2 gd2 r.2.1 (T2.put r.1) Y2 wd ls 7)=>show Calls Tryz.prog 19 #[.pointer (some ⟨gt2,0,none⟩)] w10 (fun e w'=>e=.returned (.int .i64 (fl:Int))∧Below w10.heap.size w10 w') by
     have:=flushed_any w10 τ2 gt2 gd2 (T2.put r.1) Y2 hx.bt.t hx.held
     rw [hheld,← hfl] at this
     exact this)
    have d1:(n:Int).tdiv 256=(nd:Int):=by rw [hnd];rfl
    have d2:(n:Int) / 256=(nd:Int):=by omega
    have hnd6:nd≤5:=by have:=HX.out;omega
    have d5:IntKind.i64.wrap (nd:Int)=(nd:Int):=IntWalk.i64_in _ (by omega)
    have d6:(nd:Int) * 256=(fl:Int):=by omega
    have d7:IntKind.i64.wrap (fl:Int)=(fl:Int):=IntWalk.i64_in _ (by omega)
    have d8:((fl:Int) == (fl:Int))=true:=by simp
    clear hu8 hgl7 hτ hh0 hen hr hnd hfl hheld
    conv=>arg 2;whnf
    go_wp2_with (first
     | (go_at_call 19;(with_reducible refine HF1.out.mono ?_);rintro e w9 ⟨rfl,hb9⟩;have HB9:=hid hb9;clear hb9)
     | (go_at_call 12;refine (HFL2.out w9 HB9.out).mono ?_;rintro e w10 ⟨rfl,L10,hx10,hu10⟩;have HX10:=hid hx10;have HBW9:=hid (HBW8.out.trans (HB9.out.mono HBW8.out.size));have HBW10:=hid (show Below W.heap.size W w10 from ⟨hu10.os.trans HBW9.out.os,hu10.tape.trans HBW9.out.tape,hu10.output.trans HBW9.out.output,Nat.le_trans HBW9.out.size hu10.size,fun k hk=>(hu10.block k (Nat.lt_of_lt_of_le hk HBW9.out.size) (HLO7.out.1 k hk) (HTA.out.1 k hk)).trans (HBW9.out.block k hk)⟩);have HDS10:=hid (DS.one (RS.below HDS8.out HB9.out) (hu10.block gl (Nat.lt_of_lt_of_le HTA.out.2.2 HB9.out.size) HLO7.out.2 HTA.out.2.1));clear hx10 hu10)
     | (go_at_call 19;(with_reducible refine (HF2.out w10 L10 HX10.out).mono ?_);rintro e w11 ⟨rfl,hb11⟩;have HB11:=hid hb11;clear hb11)
     | (go_at_call 33;refine (HEND.out w11 L10 (HX10.out.below HB11.out) (HBW10.out.trans (HB11.out.mono HBW10.out.size)) (RS.below HDS10.out HB11.out)).mono ?_;rintro e w12 ⟨rfl,hb12⟩;have HB12:=hid hb12;clear hb12))
    go_ret
    exact ⟨rfl,(HBW10.out.trans (HB11.out.mono HBW10.out.size)).trans (HB12.out.mono (Nat.le_trans HBW10.out.size HB11.out.size))⟩
theorem room_goN (W:World) (n0:Int) (a0:-9223372036854775808≤n0) (c0:n0≤9223372036854775807) (n1:Int) (a1:-9223372036854775808≤n1) (c1:n1≤9223372036854775807) (n2:Int) (a2:-9223372036854775808≤n2) (c2:n2≤9223372036854775807) (n3:Int) (a3:-9223372036854775808≤n3) (c3:n3≤9223372036854775807) (n4:Int) (a4:-9223372036854775808≤n4) (c4:n4≤9223372036854775807) (n5:Int) (a5:-9223372036854775808≤n5) (c5:n5≤9223372036854775807) (n6:Int) (a6:-9223372036854775808≤n6) (c6:n6≤9223372036854775807) (ht:HalfTab W∧RoundTab W∧4≤W.heap.size∧TabAt 1 Lib.deBruijn64tab W) :
 Calls Tryz.prog 7 #[.int .i64 n0,.int .i64 n1,.int .i64 n2,.int .i64 n3,.int .i64 n4,.int .i64 n5,.int .i64 n6] W fun e w'=>e=.returned (.bool true)∧Below W.heap.size W w' :=
 room_go W n0 a0 c0 n1 a1 c1 n2 a2 c2 n3 a3 c3 n4 a4 c4 n5 a5 c5 n6 a6 c6 ⟨ht.1,ht.2.1,ht.2.2.2,ht.2.2.1⟩
end
section
open Go.ChangeShapes Go.WideShapes Go.ChangeAt Go.RowKit
theorem own:ownKnob Tryz.prog.godebug=none:=by kernel_rfl
theorem gHalf:Tryz.prog.globalNamed "docket/frame.half" = some 2:=by kernel_rfl
theorem gRound:Tryz.prog.globalNamed "docket/digest.round" = some 3:=by kernel_rfl
theorem gHalfT:(Tryz.prog.globals[2]?).map (·.type)=some 345:=by kernel_rfl
theorem gRoundT:(Tryz.prog.globals[3]?).map (·.type)=some 353:=by kernel_rfl
theorem cHalf:Tryz.prog.cellsOf 345=16:=by kernel_rfl
theorem cRound:Tryz.prog.cellsOf 353=64:=by kernel_rfl
theorem c255:Tryz.prog.cellsOf 255=1:=by kernel_rfl
def halfI:List Int:=[0,498536548,997073096,651767980,1994146192,1802195444,1303535960,1342533948,3988292384,4027552580,3604390888,3412177804,2607071920,2262029012,2685067896,3183342108]
def roundI:List Int:=[1116352408,1899447441,3049323471,3921009573,961987163,1508970993,2453635748,2870763221,3624381080,310598401,607225278,1426881987,1925078388,2162078206,2614888103,3248222580,3835390401,4022224774,264347078,604807628,770255983,1249150122,1555081692,1996064986,2554220882,2821834349,2952996808,3210313671,3336571891,3584528711,113926993,338241895,666307205,773529912,1294757372,1396182291,1695183700,1986661051,2177026350,2456956037,2730485921,2820302411,3259730800,3345764771,3516065817,3600352804,4094571909,275423344,430227734,506948616,659060556,883997877,958139571,1322822218,1537002063,1747873779,1955562222,2024104815,2227730452,2361852424,2428436474,2756734187,3204031479,3329325298]
theorem tab_reads {P:Program} {W:World} {name:String} {k:IntKind} {zs:List Int} {g:Nat} {t e:TypeId} {n:Nat}
 (hg:P.globalNamed name=some g) (hty:(P.globals[g]?).map (·.type)=some t) (ht:P.underlying t=some (.array n e)) (he:P.underlying e=some (.int k)) (hce:P.cellsOf e=1) (hct:P.cellsOf t=n)
 (h:Lib.VarReads P W name (Lib.tabData k zs)):Lib.TabIs P W name k zs:=by
 obtain ⟨g',t',cs,fuel,p,hg',ht',hvar,hd⟩:=h
 obtain rfl:=Option.some.inj (hg.symm.trans hg')
 obtain rfl:=Option.some.inj (hty.symm.trans ht')
 unfold Lib.TabIs
 rw [hvar,← Lib.cells_of_tab ht he hce hct hd]
theorem half_of {W:World} (ht:Lib.TabIs Tryz.prog W "docket/frame.half" .u32 halfI):HalfTab W:=fun i hi=>by
 rw [ht.cell gHalf i hi]
 have e:∀ i:Fin 16,halfI.getD i.val 0=((halfL.getD i.val 0).toNat:Int):=by decide +kernel
 rw [e ⟨i,hi⟩]
theorem round_of {W:World} (ht:Lib.TabIs Tryz.prog W "docket/digest.round" .u32 roundI):RoundTab W:=fun i hi=>by
 rw [ht.cell gRound i hi]
 have e:∀ i:Fin 64,roundI.getD i.val 0=((kT i.val).toNat:Int):=by decide +kernel
 rw [e ⟨i,hi⟩]
def setO (v:Array Value):Obj→Obj
 | .cells _ t frozen=>.cells v t frozen
 | o=>o
noncomputable def laidStart (os:Os):World :=
 { World.holding Tryz.prog os ⟨#[],#[],[]⟩ with heap:=((World.holding Tryz.prog os ⟨#[],#[],[]⟩).heap.modify 2 (setO (halfI.map fun z=>Value.int .u32 z).toArray)).modify 3 (setO (roundI.map fun z=>Value.int .u32 z).toArray) }
end
section
open Go.ChangeShapes Go.WideShapes Go.ChangeAt Go.RowKit
theorem gDb:Tryz.prog.globalNamed "math/bits.deBruijn64tab" = some 1:=by kernel_rfl
theorem gDbT:(Tryz.prog.globals[1]?).map (·.type)=some 330:=by kernel_rfl
theorem cDb:Tryz.prog.cellsOf 330=64:=by kernel_rfl
theorem c5:Tryz.prog.cellsOf 5=1:=by kernel_rfl
def db32I:List Int:=[0,1,28,2,29,14,24,3,30,22,20,15,25,17,4,8,31,27,13,23,21,19,16,7,26,12,18,6,11,5,10,9]
def db64I:List Int:=[0,1,56,2,57,49,28,3,61,58,42,50,38,29,17,4,62,47,59,36,45,43,51,22,53,39,33,30,24,18,12,5,63,55,48,27,60,41,37,16,46,35,44,21,52,32,23,11,54,26,40,15,34,20,31,10,25,14,19,9,13,8,7,6]
theorem db_of {W:World} (ht:Lib.TabIs Tryz.prog W "math/bits.deBruijn64tab" .u8 db64I):TabAt 1 Lib.deBruijn64tab W:=fun i hi=>by
 rw [ht.cell gDb i hi]
 have e:∀ i:Fin 64,db64I.getD i.val 0=((Lib.deBruijn64tab.getD i.val 0:Nat):Int):=by decide +kernel
 rw [e ⟨i,hi⟩]
theorem tableN {W:World} (h:laidMetH Tryz.prog [("math/bits.deBruijn32tab",Rows.laid_math_bits_deBruijn32tab),("math/bits.deBruijn64tab",Rows.laid_math_bits_deBruijn64tab),("docket/digest.round",Rows.laid_docket_digest_round),("docket/frame.half",Rows.laid_docket_frame_half)] W):HalfTab W∧RoundTab W∧4≤W.heap.size∧TabAt 1 Lib.deBruijn64tab W:=by
 rw [MakeChecks.laidMetH_plain _ _ _ (by kernel_rfl)] at h
 have c:=db_of (tab_reads gDb gDbT Tryz.underlying330 Tryz.underlying5 c5 cDb (Lib.laidMet.reads h (.tail _ (.head _))))
 have a:=round_of (tab_reads gRound gRoundT Tryz.underlying353 Tryz.underlying255 c255 cRound (Lib.laidMet.reads h (.tail _ (.tail _ (.head _)))))
 have b:=half_of (tab_reads gHalf gHalfT Tryz.underlying345 Tryz.underlying255 c255 cHalf (Lib.laidMet.reads h (.tail _ (.tail _ (.tail _ (.head _))))))
 refine ⟨b,a,?_,c⟩
 have:=World.block_lt_of_cell? W _ (a 0 (by decide))
 exact this
noncomputable def laidStart4 (os:Os):World :=
 { laidStart os with heap:=((laidStart os).heap.modify 0 (setO (db32I.map fun z=>Value.int .u8 z).toArray)).modify 1 (setO (db64I.map fun z=>Value.int .u8 z).toArray) }
end
end Go.Proofs.YtgkehahklccacaaGreatDoor
