import Derived.Test.YtgkehahklccacaaGreatDoorZ27
namespace Go.Proofs.YtgkehahklccacaaGreatDoor
open Go Go.RowKit
open Go.Lib (hid)
set_option maxRecDepth 100000
set_option maxHeartbeats 1000000
set_option linter.unusedVariables false
set_option linter.unusedSimpArgs false
section
open Go.Maps Go.WideMaps Go.ChangeMaps
theorem alOld (w:World) (o:Obj) (i:Nat) (h:i < w.heap.size):(w.alloc o).heap[i]?=w.heap[i]? :=
 ((Below.refl w.heap.size w).alloc (Nat.le_refl _) o).block i h
def TakeNo (wn j:Nat) (b:List UInt8):Prop :=
 ∀ (wx:World) (τ:Nat→Nat) (gt gd:Nat) (T:TT) (Y:TY),TS wx τ gt gd T Y→T.wd.toNat=wn→HalfTab wx→∀ (ax:Option Addr) (cx:Nat),R8 wx ax 8207 cx b →
   Calls Tryz.prog 109 #[.pointer (some ⟨gt,0,none⟩),.agg #[.int .i64 ((0:Nat):Int),.int .i64 (j:Int)],.slice ax 8207 cx] wx fun e w'=>(∃ v,e=.returned (.tuple #[v,.bool false]))∧Below wx.heap.size wx w'
abbrev boxT0 (gd:Nat) (ep wd:Int) (fb ob:Nat):Obj:=.cells #[.pointer (some ⟨gd,0,none⟩),.int .i64 ep,.int .i64 0,.int .i64 wd,.int .i64 0,.map (some fb),.map (some ob),.slice none 0 0,.int .i64 0,.bool false,.bool false] 99
theorem TS.start (w:World) (gd:Nat) (ep wd:Int) (h4:4≤w.heap.size) (hw:1≤wd∧wd≤32) :
 TS (((w.alloc (.map #[] 0)).alloc (.map #[] 0)).alloc (boxT0 gd ep wd w.heap.size (w.heap.size+1))) (put1 (put1 (put1 (fun _=>0) w.heap.size 2) (w.heap.size+1) 3) (w.heap.size+2) 1) (w.heap.size+2) gd ⟨ep,0,wd,0,false,false,[]⟩ ⟨w.heap.size,w.heap.size+1,.slice none 0 0,fun _ _=>none,fun _ _=>none,0,0⟩:=by
 obtain ⟨w1,hw1⟩:∃ w1,w1=w.alloc (.map #[] 0):=⟨_,rfl⟩
 obtain ⟨w2,hw2⟩:∃ w2,w2=w1.alloc (.map #[] 0):=⟨_,rfl⟩
 have z1:w1.heap.size=w.heap.size+1:=by rw [hw1,World.size_alloc]
 have z2:w2.heap.size=w.heap.size+2:=by rw [hw2,World.size_alloc,z1]
 have m1:=MAt.made w
 have m2:=MAt.made w1
 rw [← hw1] at m1 ⊢
 rw [← hw2] at m2 ⊢
 have m1':=m1.keep (w':=w2) (by rw [hw2];exact alOld _ _ _ (by omega))
 have hp:∀ k,put1 (put1 (put1 (fun _=>0) w.heap.size 2) (w.heap.size+1) 3) (w.heap.size+2) 1 k=if k=w.heap.size+2 then 1 else if k=w.heap.size+1 then 3 else if k=w.heap.size then 2 else 0:=fun k=>rfl
 obtain ⟨o3,ho3⟩:∃ o3,o3=boxT0 gd ep wd w.heap.size (w.heap.size+1):=⟨_,rfl⟩
 rw [← ho3]
 have hx3:(w2.alloc o3).heap[w.heap.size+2]?=some o3:=by rw [← z2];exact heap_alloc_new _ _
 have hz3:(w2.alloc o3).heap.size=w.heap.size+3:=by rw [World.size_alloc,z2]
 refine ⟨by rw [hx3,ho3];rfl,by rw [hp,if_pos rfl],fun k hk=>?_,fun k hk=>?_,by rw [hz3];omega,hw,m1'.keep (alOld _ _ _ (by omega)),?_,Nat.zero_le _,?_,?_,Nat.zero_le _,fun j hj=>by simp at hj,?_,fun _ _=>rfl,?_,?_,by simp,fun _ _=>rfl,rfl⟩
 · rw [hp] at hk
   rw [hz3]
   split at hk
   · omega
   · split at hk
     · omega
     · split at hk
       · omega
       · exact absurd rfl hk
 · rw [hp,if_neg (by omega),if_neg (by omega),if_neg (by omega)]
 · show put1 _ _ _ w.heap.size=2
   rw [hp,if_neg (by omega),if_neg (by omega),if_pos rfl]
 · have:=m2.keep (w':=w2.alloc o3) (alOld _ _ _ (by omega))
   rwa [z1] at this
 · show put1 _ _ _ (w.heap.size+1)=3
   rw [hp,if_neg (by omega),if_pos rfl]
 · show OwnL _ _ 38 32 _ (.slice none 0 0) (0 % 256) ((([]:List Dg).drop (256 * (0 / 256))).flatMap dgE)
   rw [Nat.zero_mod,List.drop_nil]
   exact OwnL.nil _ _ _ _ _
 · show OwnL _ _ 38 32 5 (.slice none 0 0) (0 / 256) ((rootsP wd []).flatMap dgE)
   rw [show rootsP wd []=[] from by unfold rootsP;rw [List.length_nil,Nat.zero_div];rfl,Nat.zero_div]
   exact OwnL.nil _ _ _ _ _
 · show OwnL _ _ 121 2 7 (.slice none 0 0) (0 / 256) ((List.range (0 / 256)).flatMap ordE)
   rw [Nat.zero_div]
   exact OwnL.nil _ _ _ _ _
set_option maxHeartbeats 8000000
theorem open_any (w:World) (L:Lay) (gd:Nat) (d:Dm) (h:DAt w L gd d) (hp:Pre d) (hpw:d.power=true) (hun:∀ i,i < d.fs.length→(d.file i).units≤9223372036854775806) (hcl:d.claims.length < 1000000) (hco:-4611686018427387904≤d.claimOf tlN∧d.claimOf tlN≤4611686018427387904)
 (wd:Int) (hwd:1≤wd∧wd≤32) (ls:List Dg) (n:Nat) (hn:ls.length=n) (hn6:n≤60000) (m:Nat) (hm:m≤n / 256) (rest:List UInt8) (hB:(wholeD d).1=tilesQ wd.toNat (chunk ls) m++rest) (hw0:(wholeD d).2=0)
 (hl0:-9223372036854775808≤(d.length tlN).1) (hl1:(d.length tlN).1≤9223372036854775807) (hlB:(wholeD d).1.length≤281474976710656) (hno:m < n / 256→8207≤rest.length→TakeNo wd.toNat m (rest.take 8207)) (hh:HalfTab w) (ht:RoundTab w) (h4:4≤w.heap.size) (x0 x1:Value)
 (hleaf:∀ (i:Nat) (x:Dg) (wx:World),ls[i]?=some x→Below w.heap.size w wx→Calls Tryz.prog 38 #[.int .i64 (i:Int),x0,x1] wx fun e w'=>e=.returned (.agg (dgA x.1))∧Below wx.heap.size wx w') :
 Calls Tryz.prog 21 #[.pointer (some ⟨gd,0,none⟩),.int .i64 wd,.int .i64 (n:Int),.func (.func 38) #[] #[x0,x1]] w (OpRet w L gd d ⟨d.epoch,d.claimOf tlN+1,wd,m,looseB d,looseB d,ls⟩):=by
 have hnf:∀ wx,(binOp .eql 58 (.func (.func 38) #[] #[x0,x1]) .nilFunc).run Tryz.prog wx=.ok (.bool false) wx:=fun wx=>by kernel_rfl
 have HPW:=hid (power_any w L gd d h)
 rw [hpw] at HPW
 have HWH:=hid (whole_any w L gd d h hp hl0 hl1)
 have H:=hid h
 have HX:=hid (And.intro hp (And.intro hun (And.intro hcl (And.intro hco (And.intro hn (And.intro hn6 (And.intro hm (And.intro ht h4))))))))
 have HB:=hid (And.intro hB (And.intro hw0 (And.intro hlB hno)))
 have HH:=hid hh
 have HLF:=hid hleaf
 have HWD:=hid hwd
 have d1:decide (wd < 1)=false:=by simp;omega
 have d2:decide (32 < wd)=false:=by simp;omega
 have d3:decide ((n:Int) < 0)=false:=by simp
 have d4:decide (1099511627776 < (n:Int))=false:=by simp;omega
 clear h hp hpw hun hcl hco hwd hn hn6 hm hB hw0 hl0 hl1 hlB hno hh ht h4 hleaf
 go_enter Tryz.func21,Tryz.ntmps21
 refine wp_two_k (c:=op0) ⟨_,_,rfl⟩ fun K hK=>?_
 have HK:=hid hK
 clear hK
 conv=>arg 2;whnf
 go_wp2_with fail
 refine HK.out _ _ ?_
 clear HK K
 refine wp_two_k (c:=dropSeq 1 op0) ⟨_,_,rfl⟩ fun K hK=>?_
 have HK:=hid hK
 clear hK
 conv=>arg 2;whnf
 go_wp2_with fail
 refine HK.out _ _ ?_
 clear HK K
 rw [dropSeq_succ]
 clear d1 d2 d3 d4 hnf
 refine wp_two_k (c:=dropSeq 2 op0) ⟨_,_,rfl⟩ fun K hK=>?_
 have HK:=hid hK
 clear hK
 conv=>arg 2;whnf
 go_wp2_with (go_at_call 15;refine HPW.out.mono ?_;rintro e wx ⟨rfl,hw⟩;have hw:=hw.symm;subst hw)
 refine HK.out _ _ ?_
 clear HK K
 rw [dropSeq_succ]
 refine wp_two_k (c:=dropSeq 3 op0) ⟨_,_,rfl⟩ fun K hK=>?_
 have HK:=hid hK
 clear hK
 conv=>arg 2;whnf
 go_wp2_with (go_at_call 55;refine HWH.out.mono ?_;rintro e w1 ⟨hb1,sa,sn,sc,v,rfl,ho,hm,hv⟩;rw [HB.out.2.1] at hv;obtain rfl:v=.nilIface:=(hv.resolve_right fun q=>q.1 rfl).2;have HB1:=hid hb1;have HO:=hid ho;have HM:=hid hm;clear hv hb1 ho hm)
 refine HK.out _ _ ?_
 clear HK K
 rw [dropSeq_succ]
 refine wp_two_k (c:=dropSeq 4 op0) ⟨_,_,rfl⟩ fun K hK=>?_
 have HK:=hid hK
 clear hK
 conv=>arg 2;whnf
 go_wp2_with fail
 refine HK.out _ _ ?_
 clear HK K
 rw [dropSeq_succ]
 have HEP:=hid (epoch_any w1 L gd d (H.out.below HB1.out))
 obtain ⟨ep,hep⟩:∃ ep:Int,ep=(d.epoch:Int):=⟨_,rfl⟩
 rw [← hep] at HEP ⊢
 clear hep
 have hmm:=@run_makeMap Tryz.prog
 refine wp_two_k (c:=dropSeq 5 op0) ⟨_,_,rfl⟩ fun K hK=>?_
 have HK:=hid hK
 clear hK
 conv=>arg 2;whnf
 go_wp2_with (go_at_call 56;refine HEP.out.mono ?_;rintro e wx ⟨rfl,hw⟩;have hw:=hw.symm;subst hw)
 refine HK.out _ _ ?_
 clear HK K
 rw [dropSeq_succ]
 clear hmm
 have z1:=HB1.out.size
 have hts:=TS.start w1 gd ep wd (by have:=HX.out.2.2.2.2.2.2.2.2;omega) HWD.out
 have hbn:Below w1.heap.size w1 (((w1.alloc (.map #[] 0)).alloc (.map #[] 0)).alloc (boxT0 gd ep wd w1.heap.size (w1.heap.size+1))):=(((Below.refl _ _).alloc (Nat.le_refl _) _).alloc (by simp) _).alloc (by simp;omega) _
 obtain ⟨gt,hgt⟩:∃ gt,gt=w1.heap.size+2:=⟨_,rfl⟩
 obtain ⟨τ,hτ⟩:∃ τ,τ=put1 (put1 (put1 (fun _=>0) w1.heap.size 2) (w1.heap.size+1) 3) (w1.heap.size+2) 1:=⟨_,rfl⟩
 have hτn:∀ k,τ k ≠ 0→w1.heap.size≤k:=fun k hk=>by
  rw [hτ] at hk
  unfold put1 at hk
  split at hk
  · omega
  · split at hk
    · omega
    · split at hk
      · omega
      · exact absurd rfl hk
 rw [← hτ,← hgt] at hts
 rw [show w1.heap.size+1+1=gt from hgt.symm]
 obtain ⟨w4,hw4⟩:∃ w4,w4=((w1.alloc (.map #[] 0)).alloc (.map #[] 0)).alloc (boxT0 gd ep wd w1.heap.size (w1.heap.size+1)):=⟨_,rfl⟩
 rw [← hw4] at hts hbn
 rw [show ((w1.alloc (.map #[] 0)).alloc (.map #[] 0)).alloc (.cells #[.pointer (some ⟨gd,0,none⟩),.int .i64 ep,.int .i64 0,.int .i64 wd,.int .i64 0,.map (some w1.heap.size),.map (some (w1.heap.size+1)),.slice none 0 0,.int .i64 0,.bool false,.bool false] 99)=w4 from hw4.symm]
 have hb4:=HB1.out.trans (hbn.mono z1)
 have hsz:sn≤281474976710656:=by rw [HM.out];exact HB.out.2.2.1
 have hr4:=(R8.of_owns HO.out hsz).below hbn
 rw [HB.out.1] at hr4
 have HT:=hid (show ∀ j,j < m→(chunk ls j).length=256 from fun j hj=>by unfold chunk;rw [List.length_take,List.length_drop];have:=HX.out.2.2.2.2.1;have:=HX.out.2.2.2.2.2.2.1;omega)
 have HRD:=hid (tread_any w4 τ gt gd _ _ hts (HH.out.below hb4 (by have:=HX.out.2.2.2.2.2.2.2.2;omega)) sa sn sc (chunk ls) rest m n hr4 HT.out HX.out.2.2.2.2.2.2.1 (by have:=HX.out.2.2.2.2.2.1;omega)
  (fun q1 q2 wx ax cx q3 q4=>HB.out.2.2.2 q1 q2 wx τ gt gd _ _ (hts.below q3) rfl (HH.out.below (hb4.trans (q3.mono hb4.size)) (by have:=HX.out.2.2.2.2.2.2.2.2;omega)) ax cx q4))
 have HTS:=hid hts;have HB4:=hid hb4;have HTN:=hid (show ∀ k,τ k ≠ 0→w.heap.size≤k from fun k hk=>Nat.le_trans z1 (hτn k hk))
 have HT4:=hid hts.dom
 clear hts hbn hgt hτ hτn hw4 hb4 hsz hr4 z1
 refine wp_two_k (c:=dropSeq 6 op0) ⟨_,_,rfl⟩ fun K hK=>?_
 have HK:=hid hK
 clear hK
 conv=>arg 2;whnf
 go_wp2_with (go_at_call 57;refine HRD.out.mono ?_;rintro e w5 ⟨fb,M,rfl,hfd,hb5⟩;have HFD:=hid hfd;have HB5:=hid hb5;clear hfd hb5)
 refine HK.out _ _ ?_
 clear HK K
 rw [dropSeq_succ]
 have hz4:=HB4.out.size
 have h0:∀ b,w4.heap.size≤b→τ b=0:=fun b hb=>by
  rcases Nat.eq_zero_or_pos (τ b) with e | e
  · exact e
  · have:=HT4.out b (by omega);omega
 have hol:OL w w5 L τ gt gd d ⟨ep,0,wd,0,false,false,[]⟩ _ fb m M ls 0:=⟨⟨H.out.below (HB4.out.trans (HB5.out.mono hz4)),HTS.out.below HB5.out,fun k hk=>by
  rcases Nat.eq_zero_or_pos (L.ρ k) with e | e
  · exact e
  · have:=H.out.dom k (by omega);have:=HTN.out k hk;omega⟩,HB4.out.trans (HB5.out.mono hz4),HTN.out,⟨HFD.out.map,Nat.le_trans hz4 HFD.out.lo,fun j hj=>by
  obtain ⟨g,q1,q2,q3⟩:=HFD.out.at_ j hj
  exact ⟨g,q1,Nat.le_trans hz4 q2,q3⟩,HFD.out.no⟩,h0 fb HFD.out.lo,fun j g n c hj hM=>by
  obtain ⟨g',q1,q2,-⟩:=HFD.out.at_ j hj
  rw [hM] at q1
  cases q1
  exact h0 _ q2⟩
 exact open_loop w w5 L τ gt gd d _ _ fb m n M ls hol HX.out.1 HX.out.2.1 HX.out.2.2.1 HX.out.2.2.2.1 HX.out.2.2.2.2.1 HX.out.2.2.2.2.2.1 HX.out.2.2.2.2.2.2.1 HX.out.2.2.2.2.2.2.2.1 (by have:=HX.out.2.2.2.2.2.2.2.2;omega) x0 x1 HLF.out _ _ _ _ _ _ _ _ _ _ _ _ _ _ _ _ _ _ _ _ _ _ _ _ _ _ _ _ _ _ _ _ _ _ _ _ _ _ _ _ _ _ _ _ _ _ _ _ _ _ _ _ _ _ _ _ _ _ _ _ _ _ _ _ _ _ _ _ _ _ _ _ _ _ _ _ _ _ _ _ _ _ _ _ _ _ _ _ _ _ _ _ _ _ _ _ _ _ _ _ _ _ _ _ _ _ _ _ _ _ _ _ _ _ _ _ _ _ _ _ _ _ _ _ _ _ _ _ _ _ _ _ _ _ _ _ _ _ _ _ _ _ _ 
end
section
open Go.Maps Go.WideMaps Go.ChangeMaps
theorem claimOf_claim (d:Dm) (s:Nm):(d.claim s).claimOf s=d.claimOf s+1:=by
 show (lk ((s,d.claimOf s+1) :: d.claims) s).getD 0=_
 simp [lk]
theorem live_fresh (d:Dm) (hp:d.power=true) (wd:Int) (m:Nat) (a b:Bool) (l:List Dg):TT.live ⟨d.epoch,d.claimOf tlN+1,wd,m,a,b,l⟩ (d.claim tlN) tlN=0:=by
 unfold TT.live
 have h1:(d.claim tlN).power=true:=hp
 have h2:((d.claim tlN).epoch:Int)=(d.epoch:Int):=rfl
 rw [if_neg (by rw [h1];decide),if_pos ⟨h2,claimOf_claim d tlN⟩]
theorem UB.upd2 {L:Lay} {τ τ':Nat→Nat} {w0 w w':World} (h:UB L τ L τ' w w') (hu:Upd L.ρ L.ρ w0 w) (hτ:∀ k,τ k ≠ 0→w0.heap.size≤k):Upd L.ρ L.ρ w0 w' :=
 ⟨h.os.trans hu.os,h.tape.trans hu.tape,h.output.trans hu.output,Nat.le_trans hu.size h.size,fun k hk h0=>(h.block k (Nat.lt_of_lt_of_le hk hu.size) h0 (by
   rcases Nat.eq_zero_or_pos (τ k) with e | e
   · exact e
   · have:=hτ k (by omega);omega)).trans (hu.block k hk h0),Ext.refl _ _⟩
theorem UB.new2 {L:Lay} {τ τ':Nat→Nat} {w0 w w':World} (h:UB L τ L τ' w w') (hu:Upd L.ρ L.ρ w0 w) (hτ:∀ k,τ k ≠ 0→w0.heap.size≤k):∀ k,τ' k ≠ 0→w0.heap.size≤k:=fun k hk=>by
 rcases Nat.lt_or_ge k w0.heap.size with e | e
 · refine absurd (h.extT.old k (Nat.lt_of_lt_of_le e hu.size) ?_) hk
   rcases Nat.eq_zero_or_pos (τ k) with e2 | e2
   · exact e2
   · have:=hτ k (by omega);omega
 · exact e
def OvRet (w:World) (L:Lay) (gd:Nat) (d:Dm) (T:TT) (e:Ending) (w':World):Prop :=
 ∃ (gt:Nat) (τ:Nat→Nat) (Y:TY),e=.returned (.pointer (some ⟨gt,0,none⟩))∧BT w' L τ gt gd (d.claim tlN) T Y∧Upd L.ρ L.ρ w w'∧∀ k,τ k ≠ 0→w.heap.size≤k
set_option maxHeartbeats 8000000
theorem over_any (w:World) (L:Lay) (gd:Nat) (d:Dm) (h:DAt w L gd d) (hp:Pre d) (hpw:d.power=true) (hun:∀ i,i < d.fs.length→(d.file i).units≤9223372036854775806) (hcl:d.claims.length < 1000000) (hco:-4611686018427387904≤d.claimOf tlN∧d.claimOf tlN≤4611686018427387904)
 (wd:Int) (hwd:1≤wd∧wd≤32) (ls:List Dg) (a:Option Addr) (n c n0:Nat) (hds:DS w a n c ls) (hn6:n≤60000) (hn0:n0≤n) (m:Nat) (hm:m≤n0 / 256) (rest:List UInt8) (hB:(wholeD d).1=tilesQ wd.toNat (chunk (ls.take n0)) m++rest) (hw0:(wholeD d).2=0)
 (hl0:-9223372036854775808≤(d.length tlN).1) (hl1:(d.length tlN).1≤9223372036854775807) (hlB:(wholeD d).1.length≤281474976710656) (hno:m < n0 / 256→8207≤rest.length→TakeNo wd.toNat m (rest.take 8207)) (hh:HalfTab w) (ht:RoundTab w) (h4:4≤w.heap.size) (hl3:L.ρ 3=0)
 (hla:∀ b off,a=some ⟨b,off,none⟩→0 < n→L.ρ b=0) :
 Calls Tryz.prog 11 #[.pointer (some ⟨gd,0,none⟩),.int .i64 wd,.slice a n c,.int .i64 (n0:Int)] w (OvRet w L gd d ⟨d.epoch,d.claimOf tlN+1,wd,m,looseB d,looseB d,ls⟩):=by
 obtain ⟨w1,hw1⟩:∃ w1,w1=(w.alloc (.cells #[.slice a n c] 23)).alloc (.cells #[.int .i64 (n0:Int)] 3):=⟨_,rfl⟩
 obtain ⟨bl,hbl⟩:∃ bl,bl=w.heap.size:=⟨_,rfl⟩
 obtain ⟨bn,hbn⟩:∃ bn,bn=w.heap.size+1:=⟨_,rfl⟩
 have hb1:Below w.heap.size w w1:=by rw [hw1];exact ((Below.refl _ _).alloc (Nat.le_refl _) _).alloc (by simp) _
 have hz1:w1.heap.size=w.heap.size+2:=by rw [hw1,World.size_alloc,World.size_alloc]
 have hxl:w1.heap[bl]?=some (.cells #[.slice a n c] 23 (0,0)):=by rw [hw1,alOld _ _ _ (by rw [World.size_alloc];omega),hbl];exact heap_alloc_new _ _
 have hxn:w1.heap[bn]?=some (.cells #[.int .i64 (n0:Int)] 3 (0,0)):=by rw [hw1,hbn,← World.size_alloc w (.cells #[.slice a n c] 23)];exact heap_alloc_new _ _
 have hd1:=h.below hb1
 have hds1:=hds.below hb1
 have hρ:∀ b,w.heap.size≤b→L.ρ b=0:=fun b hb=>by
  rcases Nat.eq_zero_or_pos (L.ρ b) with e | e
  · exact e
  · have:=h.dom b (by omega);omega
 have hln:ls.length=n:=hds.1
 have c1n:=cell_of_row w1 bn 0 _ _ _ hxn
 have c1l:=cell_of_row w1 bl 0 _ _ _ hxl
 simp only [List.getElem?_toArray,List.getElem?_cons_zero] at c1n c1l
 have hlt:=h.lt
 have HOP:=hid (open_any w1 L gd d hd1 hp hpw hun hcl hco wd hwd (ls.take n0) n0 (by rw [List.length_take];omega) (by omega) m hm rest hB hw0 hl0 hl1 hlB hno (hh.below hb1 (by omega)) (rt_below ht hb1 (by omega)) (by omega) (.pointer (some ⟨bn,0,none⟩)) (.pointer (some ⟨bl,0,none⟩))
  (fun i x wx hx hb=>leaf1_any wx bn bl a n c n0 i ls x ((hb.cell (p:=⟨bn,0,none⟩) (by show bn < _;omega)).trans c1n) ((hb.cell (p:=⟨bl,0,none⟩) (by show bl < _;omega)).trans c1l) (hds1.below hb)
    (by rw [List.getElem?_take] at hx;split at hx;exact hx;cases hx) (by rw [List.getElem?_take] at hx;split at hx;assumption;cases hx) hn6))
 have HLV:=hid (fun k=>live_fresh d hpw wd m (looseB d) (looseB d) (ls.take k))
 have HX:=hid (And.intro hln (And.intro hn6 (And.intro hn0 (And.intro hz1 (And.intro hbl hbn)))))
 have HB1:=hid hb1;have HDS:=hid hds1;have HXL:=hid hxl;have HXN:=hid hxn;have HRO:=hid hρ;have HLA:=hid hla;have HRT:=hid (rt_below ht hb1 (by omega));have H4:=hid h4;have HDL:=hid hds;have HL3:=hid hl3
 have hw1':(w.alloc (.cells #[.slice a n c] 23)).alloc (.cells #[.int .i64 (n0:Int)] 3)=w1:=hw1.symm
 rw [show (ls.take n0)=ls.take n0 from rfl] at HOP
 clear h hp hpw hun hcl hco hwd hds hn6 hn0 hm hB hw0 hl0 hl1 hlB hno hh ht h4 hl3 hla hw1 hb1 hz1 hxl hxn hd1 hds1 hρ hln c1n c1l hlt
 obtain ⟨ep,hep⟩:∃ ep:Int,ep=(d.epoch:Int):=⟨_,rfl⟩
 obtain ⟨co,hco⟩:∃ co:Int,co=d.claimOf tlN+1:=⟨_,rfl⟩
 obtain ⟨lo,hlo⟩:∃ lo,lo=looseB d:=⟨_,rfl⟩
 rw [← hep,← hco,← hlo] at HOP HLV ⊢
 clear hep hco hlo
 have hbl':w.heap.size=bl:=hbl.symm
 have hbn':bl+1=bn:=by omega
 clear hbl hbn
 go_enter Tryz.func11,Tryz.ntmps11
 go_upto_region 1 with (fail)
 clear hw1'
 have HBL:=hid hbl';have HBN:=hid hbn'
 clear hbl' hbn'
 have e7:=cell_of_row w1 bn 0 _ _ _ HXN.out
 simp only [List.getElem?_toArray,List.getElem?_cons_zero] at e7
 go_upto_region 4 with (go_at_call 21;refine HOP.out.mono ?_;rintro e w2 ⟨gt,τ,Y,rfl,hbt,hu,hnw⟩;have HBT:=hid hbt;have HU:=hid hu;have HNW:=hid hnw;clear hbt hu hnw e7)
 have hbnl:bn < w1.heap.size∧bl < w1.heap.size:=by have:=HX.out.2.2.2.1;have:=HBL.out;have:=HBN.out;omega
 have HBNL:=hid hbnl
 have hz0:w.heap.size≤bn∧w.heap.size≤bl:=by have:=HBL.out;have:=HBN.out;omega
 have HZ0:=hid hz0
 have e7:w2.cell? ⟨bn,0,none⟩=some (.int .i64 (n0:Int)):=by
  have:=cell_of_row w2 bn 0 _ _ _ ((HU.out.block bn hbnl.1 (HRO.out bn hz0.1)).trans HXN.out)
  simpa using this
 clear hbnl hz0
 go_wp2_with fail
 clear e7
 go_loopw [11] (fun v wr=>∃ (k:Nat) (τ':Nat→Nat) (Y':TY),n0≤k∧k≤n∧v=.int .i64 (k:Int)∧BT wr L τ' gt gd (d.claim tlN) ⟨ep,co,wd,m,lo,lo,ls.take k⟩ Y'∧Upd L.ρ L.ρ w1 wr∧∀ j,τ' j ≠ 0→w1.heap.size≤j) (fun v _=>n - (intOf v).toNat)
 case atStart=>exact ⟨n0,τ,Y,Nat.le_refl _,HX.out.2.2.1,rfl,HBT.out,HU.out,HNW.out⟩
 case round =>
  obtain ⟨k,τ2,Y2,hk0,hk,rfl,hbt,hu,hnw⟩:=hrel
  have HBT2:=hid hbt;have HU2:=hid hu;have HNW2:=hid hnw;have HK0:=hid hk0
  have e6:wr.cell? ⟨bl,0,none⟩=some (.slice a n c):=by
   have:=cell_of_row wr bl 0 _ _ _ ((hu.block bl HBNL.out.2 (HRO.out bl HZ0.out.2)).trans HXL.out)
   simpa using this
  by_cases hlt:k < n
  · have h9:decide (k < n)=true:=by simp;exact hlt
    have h8:decide ((k:Int) < (n:Int))=true:=by simp;exact hlt
    obtain ⟨x,hx⟩:∃ x,ls[k]?=some x:=⟨_,List.getElem?_eq_getElem (by rw [HX.out.1];exact hlt)⟩
    obtain ⟨b',off',rfl,hbl,hr⟩:=HDL.out.at hx
    obtain ⟨E,hE⟩:∃ E,E=dgA x.1:=⟨_,rfl⟩
    have HES:=hid (show E.size=32 by rw [hE,dgA_size,x.2])
    have hr:wr.rangeAt b' (off'+k * 32) E.toList:=by
     have h1:w1.rangeAt b' (off'+k * 32) (x.1.map b8):=fun q v hv=>(World.cell?_of_block (HB1.out.block b' hbl)).trans (hr q v hv)
     have h2:wr.rangeAt b' (off'+k * 32) (x.1.map b8):=fun q v hv=>(World.cell?_of_block (hu.block b' (Nat.lt_of_lt_of_le hbl HB1.out.size) (HLA.out b' off' rfl (by omega)))).trans (h1 q v hv)
     rw [hE];simpa [dgA] using h2
    have HR:=hid hr
    have HLT:=hid hlt
    have HXX:=hid hx
    have hk6:k≤60000:=by have:=HX.out.2.1;omega
    have HAD:=hid (show Calls Tryz.prog 14 #[.pointer (some ⟨gt,0,none⟩),.agg E] wr _ from hE ▸ add_any wr L τ2 gt gd (d.claim tlN) _ Y2 hbt (by show (ls.take k).length < 60000;rw [List.length_take];have:=HX.out.1;have:=HX.out.2.1;omega) x (fun i hi=>(World.cell?_of_block (hu.block 3 (by have:=HX.out.2.2.2.1;have:=H4.out;omega) HL3.out)).trans (HRT.out i hi)))
    have HLK:=hid (show ls.take (k+1)=ls.take k++[x] by rw [List.take_add_one,hx];rfl)
    clear hlt hk hk0 hbt hu hnw hx hbl hr hE
    go_wp2_with (first
     | (refine L_load_arr rfl 38 (.tmp 36) (by rfl) b' (off'+k * 32) (by rfl) E _ HR.out Tryz.underlying38 rfl (by rw [HES.out];exact info38) ?_)
     | (go_at_call 14;refine HAD.out.mono ?_;rintro e w3 ⟨v,rfl,hv⟩;obtain ⟨-,rfl,τ3,Y3,hbt3,hu3⟩:=hv.resolve_right (fun q=>q.1 (HLV.out k));have HBT3:=hid hbt3;have HU3:=hid hu3;clear hv hbt3 hu3))
    refine ⟨⟨k+1,τ3,Y3,by have:=HK0.out;omega,HLT.out,by go_num,?_,?_,?_⟩,?_⟩
    · have:=HBT3.out
      rw [HLK.out];exact this
    · exact HU3.out.upd2 HU2.out HNW2.out
    · exact HU3.out.new2 HU2.out HNW2.out
    · have:=HLT.out;simp [intOf];omega
  · obtain rfl:k=n:=by omega
    have h9:decide (k < k)=false:=by simp
    have h8:decide ((k:Int) < (k:Int))=false:=by simp
    have hlk:ls.take k=ls:=List.take_of_length_le (by rw [HX.out.1];exact Nat.le_refl _)
    rw [hlk] at hbt
    have HBT9:=hid hbt
    clear hlt hk hk0 hbt hu hnw hlk
    go_wp2_with fail
    go_ret
    refine ⟨gt,τ2,Y2,rfl,HBT9.out,?_,fun j hj=>Nat.le_trans HB1.out.size (HNW2.out j hj)⟩
    exact ⟨HU2.out.os.trans HB1.out.os,HU2.out.tape.trans HB1.out.tape,HU2.out.output.trans HB1.out.output,Nat.le_trans HB1.out.size HU2.out.size,fun q hq h0=>(HU2.out.block q (Nat.lt_of_lt_of_le hq HB1.out.size) h0).trans (HB1.out.block q hq),⟨HU2.out.ext.same,fun q hq h0=>h0⟩⟩
end
end Go.Proofs.YtgkehahklccacaaGreatDoor
