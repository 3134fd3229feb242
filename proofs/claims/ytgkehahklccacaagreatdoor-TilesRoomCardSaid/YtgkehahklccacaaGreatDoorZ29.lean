import Derived.Test.YtgkehahklccacaaGreatDoorZ23
import Derived.Test.YtgkehahklccacaaGreatDoorZ20
namespace Go.Proofs.YtgkehahklccacaaGreatDoor
open Go Go.RowKit
open Go.Lib (hid)
set_option maxRecDepth 100000
set_option maxHeartbeats 1000000
set_option linter.unusedVariables false
set_option linter.unusedSimpArgs false
section
open Go.Maps Go.WideMaps
def Dm.bytesOf (d:Dm) (s:Nm):List UInt8:=match lk d.names s with | some i=>(d.file i).now | none=>[]
theorem mem_reach {d:Dm} {i:Nat}:i ∈ d.reach ↔ (∃ p ∈ d.safe,p.2=i)∨∃ c ∈ d.changes,c.made=some i:=by
 unfold Dm.reach
 rw [(List.mergeSort_perm _ _).mem_iff,List.mem_append,List.mem_map,List.mem_filterMap]
theorem lk_kept (d:Dm) (s:Nm):lk d.kept s=(lk d.safe s).map fun i=>(d.file i).safe:=by
 unfold Dm.kept
 generalize d.safe=m
 induction m with
 | nil=>rfl
 | cons p r ih =>
   obtain ⟨k,i⟩:=p
   simp only [List.map_cons,lk]
   split
   · rfl
   · exact ih
theorem tN_legal:legalB (bs tlN)=true:=by decide
theorem playN_snoc (l:List Run) (u:Run):∀ (n:Int) (b:List UInt8),playN (l++[u]) n b=playN l n b∨∃ m:Nat,playN (l++[u]) n b=u.play m (playAll l b):=by
 induction l with
 | nil =>
   intro n b
   show playN [u] n b=b∨_
   rw [playN]
   split
   · exact .inl rfl
   · exact .inr ⟨n.toNat,by rw [List.nil_append,playN,if_neg ‹_›];rfl⟩
 | cons v r ih =>
   intro n b
   rw [List.cons_append,playN,playN]
   split
   · exact .inl rfl
   · by_cases h:n - v.units≤0
     · rw [playN_neg _ _ _ h,playN_neg _ _ _ h];exact .inl rfl
     · have hl:v.laid.length≤v.units:=by unfold Run.units;omega
       have e:v.play n.toNat b=v.play v.laid.length b:=by
        unfold Run.play
        rw [List.take_of_length_le (show v.laid.length≤n.toNat by omega),List.take_length]
       rw [playAll,← e]
       exact ih _ _
structure FileP (TB:List UInt8) (N:Nat) (f:Fl):Prop where
 ok:okR f.loose f.safe.length
 pl:playAll f.loose f.safe=f.now
 pre:∀ n:Int,playN f.loose n f.safe <+: TB
 runs:f.loose.length≤N
 laid:∀ u ∈ f.loose,u.laid.length≤TB.length
variable {TB TB' : List UInt8} {N M : Nat} {f : Fl} {d : Dm}
theorem FileP.nowP (h:FileP TB N f):f.now <+: TB:=by
 have:=h.pre ((f.loose.map Run.units).sum:Nat)
 rwa [playN_all _ _ _ (Int.le_refl _),h.pl] at this
theorem FileP.safeP (h:FileP TB N f):f.safe <+: TB:=by
 have:=h.pre 0
 rwa [playN_neg _ _ _ (Int.le_refl _)] at this
theorem FileP.mono (h:FileP TB N f) (ht:TB <+: TB') (hn:N≤M):FileP TB' M f :=
 ⟨h.ok,h.pl,fun n=>(h.pre n).trans ht,Nat.le_trans h.runs hn,fun u hu=>Nat.le_trans (h.laid u hu) ht.length_le⟩
theorem FileP.new (TB:List UInt8) (N:Nat):FileP TB N ⟨[],[],[]⟩:=⟨okR_nil,rfl,fun n=>List.nil_prefix,Nat.zero_le _,fun u h=>by cases h⟩
theorem FileP.append (h:FileP TB N f) (q:List UInt8) (hq:q ≠ []) (hp:f.now++q <+: TB) (hT:TB.length≤1000000):FileP TB (N+1) ⟨f.now++q,f.safe,f.loose++[⟨q,0⟩]⟩:=by
 have hl:=hp.length_le
 rw [List.length_append] at hl
 refine ⟨okR_snoc _ _ _ h.ok (fun e=>absurd e hq) ?_,?_,fun n=>?_,?_,fun u hu=>?_⟩
 · show (if q=[] then _ else _)+q.length≤_
   rw [if_neg hq,h.pl];omega
 · rw [playAll_snoc,h.pl]
   show (if q=[] then _ else _)++q.take q.length=_
   rw [if_neg hq,List.take_length]
 · rcases playN_snoc f.loose ⟨q,0⟩ n f.safe with e | ⟨m,e⟩
   · rw [e];exact h.pre n
   · rw [e,h.pl]
     show (if q=[] then _ else _)++q.take m <+: _
     rw [if_neg hq]
     exact ((List.prefix_append_right_inj _).2 (List.take_prefix _ _)).trans hp
 · rw [List.length_append];have:=h.runs;show _+1≤_;omega
 · rcases List.mem_append.1 hu with hu | hu
   · exact h.laid u hu
   · obtain rfl:u=⟨q,0⟩:=by simpa using hu
     show q.length≤_;omega
theorem FileP.cut (h:FileP TB N f) (c:Nat) (hc:c≤f.now.length) (hT:TB.length≤1000000):FileP TB (N+1) ⟨f.now.take c,f.safe,f.loose++[⟨[],c⟩]⟩:=by
 have hl:=h.nowP.length_le
 refine ⟨okR_snoc _ _ _ h.ok (fun _=>by rw [h.pl];exact hc) ?_,?_,fun n=>?_,?_,fun u hu=>?_⟩
 · show (if ([]:List UInt8)=[] then c else _)+0≤_
   rw [if_pos rfl];omega
 · rw [playAll_snoc,h.pl]
   show (if ([]:List UInt8)=[] then f.now.take c else _)++([]:List UInt8).take _=_
   rw [if_pos rfl,List.take_nil,List.append_nil]
 · rcases playN_snoc f.loose ⟨[],c⟩ n f.safe with e | ⟨m,e⟩
   · rw [e];exact h.pre n
   · rw [e,h.pl]
     show (if ([]:List UInt8)=[] then f.now.take c else _)++([]:List UInt8).take _ <+: _
     rw [if_pos rfl,List.take_nil,List.append_nil]
     exact (List.take_prefix _ _).trans h.nowP
 · rw [List.length_append];have:=h.runs;show _+1≤_;omega
 · rcases List.mem_append.1 hu with hu | hu
   · exact h.laid u hu
   · obtain rfl:u=⟨[],c⟩:=by simpa using hu
     exact Nat.zero_le _
theorem FileP.sync (h:FileP TB N f) (hT:TB.length≤1000000):FileP TB N ⟨f.now,f.now,[]⟩:=by
 have:=h.nowP.length_le
 exact ⟨show f.now.length≤_ by omega,rfl,fun n=>h.nowP,Nat.zero_le _,fun u hu=>by cases hu⟩
theorem FileP.keep (h:FileP TB N f) (n:Int) (hT:TB.length≤1000000):FileP TB N (f.keep n):=by
 have hp:=h.pre n
 have:=hp.length_le
 exact ⟨show (playN f.loose n f.safe).length≤_ by omega,rfl,fun n=>hp,Nat.zero_le _,fun u hu=>by cases hu⟩
theorem sum_units_le (B:Nat):∀ l:List Run,(∀ u ∈ l,u.laid.length≤B)→(l.map Run.units).sum≤l.length * (B+1):=by
 intro l
 induction l with
 | nil=>intro _;exact Nat.zero_le _
 | cons u r ih =>
   intro h
   have h1:=ih fun x hx=>h x (List.mem_cons_of_mem _ hx)
   have h2:=h u List.mem_cons_self
   have h3:u.units≤B+1:=by unfold Run.units;omega
   rw [List.map_cons,List.sum_cons,List.length_cons,Nat.add_mul];omega
theorem FileP.units (h:FileP TB N f) (hT:TB.length≤1000000) (hN:N≤1000000):f.units≤9223372036854775806:=by
 have h1:=sum_units_le _ _ h.laid
 have h2:f.loose.length * (TB.length+1)≤1000000 * 1000001:=Nat.mul_le_mul (Nat.le_trans h.runs hN) (by omega)
 unfold Fl.units;omega
def NSt (d:Dm):Prop:=(d.names=[]∧d.safe=[]∧d.changes=[])∨(∃ i,i < d.fs.length∧d.names=[(tlN,i)]∧d.safe=[]∧d.changes=[⟨[],tlN,some i⟩])∨∃ i,i < d.fs.length∧d.names=[(tlN,i)]∧d.safe=[(tlN,i)]∧d.changes=[]
structure TD (TB:List UInt8) (N:Nat) (d:Dm):Prop where
 sp:d.space=1099511627776
 st:NSt d
 fsl:d.fs.length≤N
 files:∀ f ∈ d.fs,FileP TB N f
 used:d.used=((d.bytesOf tlN).length:Nat)
 acts:d.acts≤N
 ep:d.epoch≤N
theorem TD.new (TB:List UInt8):TD TB 0 (Dm.new 1099511627776):=⟨rfl,.inl ⟨rfl,rfl,rfl⟩,Nat.le_refl _,(fun f h=>(by cases h)),rfl,Nat.le_refl _,Nat.le_refl _⟩
theorem TD.mono (h:TD TB N d) (ht:TB <+: TB') (hn:N≤M):TD TB' M d :=
 ⟨h.sp,h.st,Nat.le_trans h.fsl hn,fun f hf=>(h.files f hf).mono ht hn,h.used,Nat.le_trans h.acts hn,Nat.le_trans h.ep hn⟩
theorem lk_one (i:Nat) (s:Nm):lk [(tlN,i)] s=if s=tlN then some i else none:=rfl
theorem TD.at_ (h:TD TB N d):(lk d.names tlN=none∧d.names=[])∨∃ i,i < d.fs.length∧lk d.names tlN=some i∧d.names=[(tlN,i)]:=by
 rcases h.st with ⟨a,-,-⟩ | ⟨i,hi,a,-,-⟩ | ⟨i,hi,a,-,-⟩
 · exact .inl ⟨by rw [a];rfl,a⟩
 · exact .inr ⟨i,hi,by rw [a,lk_one,if_pos rfl],a⟩
 · exact .inr ⟨i,hi,by rw [a,lk_one,if_pos rfl],a⟩
theorem TD.file_at (h:TD TB N d) (i:Nat):FileP TB N (d.file i):=by
 unfold Dm.file
 cases e:d.fs[i]? with
 | none=>exact FileP.new TB N
 | some f=>exact h.files f (List.mem_of_getElem? e)
theorem TD.fine (h:TD TB N d) (hN:N≤1000000):Fine d.fs:=fun f hf=>⟨(h.files f hf).ok,by have:=(h.files f hf).runs;omega⟩
theorem TD.pre (h:TD TB N d) (hT:TB.length≤1000000) (hN:N≤1000000):Pre d:=by
 have hf:∀ f ∈ d.fs,f.now.length≤2147483647∧f.safe.length≤2147483647∧f.loose.length < 1099511627776:=fun f hf=>by
  have h1:=(h.files f hf).nowP.length_le;have h2:=(h.files f hf).safeP.length_le;have h3:=(h.files f hf).runs
  exact ⟨by omega,by omega,by omega⟩
 have h1:=h.acts;have h2:=h.ep;have h3:=h.fsl
 have hk:∀ i:Nat,keysOf [(tlN,i)]=[tlN]:=fun i=>rfl
 rcases h.st with ⟨a,b,c⟩ | ⟨i,hi,a,b,c⟩ | ⟨i,hi,a,b,c⟩
 all_goals refine ⟨⟨fun s j e=>?_,fun s j e=>?_,fun x hx j e=>?_⟩,?_,?_,?_,?_,by omega,by omega,by omega,?_,fun s hs=>?_,hf⟩
 all_goals first
  | (rw [a] at e;cases e;done)
  | (rw [b] at e;cases e;done)
  | (rw [a,lk_one] at e;split at e <;> cases e;exact hi)
  | (rw [b,lk_one] at e;split at e <;> cases e;exact hi)
  | (rw [c] at hx;cases hx;done)
  | (rw [c] at hx;obtain rfl:=List.mem_singleton.1 hx;cases e;exact hi)
  | (rw [a];exact List.nodup_nil)
  | (rw [b];exact List.nodup_nil)
  | (rw [a,hk];exact List.nodup_cons.2 ⟨by simp,List.nodup_nil⟩)
  | (rw [b,hk];exact List.nodup_cons.2 ⟨by simp,List.nodup_nil⟩)
  | (rw [a];exact Nat.zero_le _)
  | (rw [b];exact Nat.zero_le _)
  | (rw [a];show 1≤4096;decide)
  | (rw [b];show 1≤4096;decide)
  | (rw [c];show (0:Nat) < 1099511627776;decide)
  | (rw [c];show (1:Nat) < 1099511627776;decide)
  | (rw [a] at hs;cases hs;done)
  | (rw [a,hk] at hs;obtain rfl:=List.mem_singleton.1 hs;exact tN_legal)
theorem TD.okc (h:TD TB N d):OkC d:=by
 have h0:∀ i:Nat,(keysOf [(tlN,i)]).Nodup:=fun i=>List.nodup_cons.2 ⟨by simp,List.nodup_nil⟩
 have base:∀ m:List (Nm × Nat),(m=[]∨∃ i,i < d.fs.length∧m=[(tlN,i)])→(keysOf m).Nodup∧m.length≤4096∧∀ s i,lk m s=some i→i < d.fs.length:=by
  rintro m (rfl | ⟨i,hi,rfl⟩)
  · exact ⟨List.nodup_nil,Nat.zero_le _,fun s i e=>by cases e⟩
  · exact ⟨h0 i,(by show 1≤4096;decide),fun s j e=>by rw [lk_one] at e;split at e <;> cases e;exact hi⟩
 intro k hk
 rcases h.st with ⟨a,b,c⟩ | ⟨i,hi,a,b,c⟩ | ⟨i,hi,a,b,c⟩
 · rw [c] at hk ⊢;rw [b,List.take_nil]
   obtain ⟨x,y,z⟩:=base [] (.inl rfl)
   exact ⟨x,y,z,fun c hc=>by simp at hc⟩
 · rw [c] at hk ⊢;rw [b]
   have h2:k=0∨k=1:=by simp only [List.length_cons,List.length_nil] at hk;omega
   rcases h2 with rfl | rfl
   · obtain ⟨x,y,z⟩:=base [] (.inl rfl)
     exact ⟨x,y,z,fun c hc=>by obtain rfl:_=c:=by simpa using hc
                               exact ⟨(by show 0≤32;decide),(by show tlN.length≤32;decide),(fun e=>by cases e),fun _=>(by show tlN ≠ [];decide)⟩⟩
   · obtain ⟨x,y,z⟩:=base [(tlN,i)] (.inr ⟨i,hi,rfl⟩)
     exact ⟨x,y,z,fun c hc=>by simp at hc⟩
 · rw [c] at hk ⊢;rw [b,List.take_nil]
   obtain ⟨x,y,z⟩:=base [(tlN,i)] (.inr ⟨i,hi,rfl⟩)
   exact ⟨x,y,z,fun c hc=>by simp at hc⟩
theorem begin_td {TB:List UInt8} {N:Nat} {d:Dm} {w:Dm→Dm} {p:Int→Dm→Dm} (hw:TD TB (N+1) (w { d with acts:=d.acts+1 })) (hp:∀ n,TD TB (N+1) (p n { d with acts:=d.acts+1 })) (he:TD TB (N+1) { d with acts:=d.acts+1 }):TD TB (N+1) (d.begin w p).1:=by
 have hd:∀ x:Dm,TD TB (N+1) x→TD TB (N+1) { x with power:=false }:=fun x h=>⟨h.sp,h.st,h.fsl,h.files,h.used,h.acts,h.ep⟩
 unfold Dm.begin
 dsimp only
 split
 · exact he
 split
 · exact hw
 split
 · exact hp _
 split
 · exact hp _
 split
 · exact hd _ (hp _)
 split
 · exact hd _ hw
 · exact hw
theorem begin_ok {d:Dm} {w:Dm→Dm} {p:Int→Dm→Dm} (h:(d.begin w p).2=0):(d.begin w p).1=w { d with acts:=d.acts+1 }:=by
 unfold Dm.begin at h ⊢
 dsimp only at h ⊢
 split at h
 · cases h
 rename_i h1
 split at h
 · cases h
 rename_i h2
 split at h
 · cases h
 rename_i h3
 split at h
 · cases h
 rename_i h4
 split at h
 · cases h
 rename_i h5
 split at h
 · cases h
 rename_i h6
 rw [if_neg h1,if_neg h2,if_neg h3,if_neg h4,if_neg h5,if_neg h6]
theorem begin_calm {d:Dm} (h:d.plan=[]) (w:Dm→Dm) (p:Int→Dm→Dm):d.begin w p=(w { d with acts:=d.acts+1 },0):=by
 unfold Dm.begin Dm.planned
 rw [h];rfl
theorem begin_kept {P:Dm→Prop} {d:Dm} {w:Dm→Dm} {p:Int→Dm→Dm} (hw:P (w { d with acts:=d.acts+1 })) (hp:∀ n,P (p n { d with acts:=d.acts+1 })) (he:P { d with acts:=d.acts+1 }) (hd:∀ x,P x→P { x with power:=false }):P (d.begin w p).1:=by
 unfold Dm.begin
 dsimp only
 split
 · exact he
 split
 · exact hw
 split
 · exact hp _
 split
 · exact hp _
 split
 · exact hd _ (hp _)
 split
 · exact hd _ hw
 · exact hw
variable {TB TB' : List UInt8} {N M : Nat} {f : Fl} {d : Dm}
theorem TD.acted (h:TD TB N d):TD TB (N+1) { d with acts:=d.acts+1 } :=
 ⟨h.sp,h.st,Nat.le_succ_of_le h.fsl,fun f hf=>(h.files f hf).mono (List.prefix_refl _) (Nat.le_succ _),h.used,Nat.succ_le_succ h.acts,Nat.le_succ_of_le h.ep⟩
theorem ask_t (hp:d.power=true):d.ask tlN=match lk d.names tlN with | none=>(none,32) | some i=>(some i,0):=by
 unfold Dm.ask
 rw [if_neg (by rw [hp];decide),if_neg (by rw [tN_legal];decide)]
 cases lk d.names tlN <;> rfl
theorem bytesOf_none (h:lk d.names tlN=none):d.bytesOf tlN=[]:=by unfold Dm.bytesOf;rw [h]
theorem bytesOf_some {i:Nat} (h:lk d.names tlN=some i):d.bytesOf tlN=(d.file i).now:=by unfold Dm.bytesOf;rw [h]
def Dm.madeT (e:Dm):Dm:=({ e with fs:=e.fs++[⟨[],[],[]⟩] }:Dm).change ⟨[],tlN,some e.fs.length⟩
theorem TD.made (h:TD TB N d) (hn:lk d.names tlN=none):TD TB (N+1) (Dm.madeT { d with acts:=d.acts+1 })∧lk (Dm.madeT { d with acts:=d.acts+1 }).names tlN=some d.fs.length:=by
 have hd:d.names=[]∧d.safe=[]∧d.changes=[]:=by
  rcases h.st with a | ⟨i,hi,a,-,-⟩ | ⟨i,hi,a,-,-⟩
  · exact a
  · rw [a,lk_one,if_pos rfl] at hn;cases hn
  · rw [a,lk_one,if_pos rfl] at hn;cases hn
 obtain ⟨a,b,c⟩:=hd
 have hnm:(Dm.madeT { d with acts:=d.acts+1 }).names=[(tlN,d.fs.length)]:=by
  show (Chg.act ⟨[],tlN,some d.fs.length⟩ d.names)=_
  unfold Chg.act;dsimp only
  rw [if_neg (by decide),a];rfl
 have hl:(d.fs++[(⟨[],[],[]⟩:Fl)]).length=d.fs.length+1:=by rw [List.length_append];rfl
 have hfi:(Dm.madeT { d with acts:=d.acts+1 }).file d.fs.length=⟨[],[],[]⟩:=by
  show (d.fs++[(⟨[],[],[]⟩:Fl)])[d.fs.length]?.getD _=_
  rw [List.getElem?_append_right (Nat.le_refl _),Nat.sub_self];rfl
 have hlk:lk (Dm.madeT { d with acts:=d.acts+1 }).names tlN=some d.fs.length:=by rw [hnm,lk_one,if_pos rfl]
 refine ⟨⟨h.sp,.inr (.inl ⟨d.fs.length,?_,hnm,b,?_⟩),?_,fun f hf=>?_,?_,Nat.succ_le_succ h.acts,Nat.le_succ_of_le h.ep⟩,hlk⟩
 · show _ < (d.fs++[_]).length;rw [hl];omega
 · show d.changes++[_]=_;rw [c];rfl
 · show (d.fs++[_]).length≤_;rw [hl];have:=h.fsl;omega
 · rcases List.mem_append.1 hf with h1 | h1
   · exact (h.files f h1).mono (List.prefix_refl _) (Nat.le_succ _)
   · rw [List.mem_singleton.1 h1];exact FileP.new _ _
 · rw [bytesOf_some hlk,hfi]
   have h1:(Dm.madeT { d with acts:=d.acts+1 }).used=d.used:=by
    show Dm.usedFor { ({ d with acts:=d.acts+1 }:Dm) with fs:=d.fs++[⟨[],[],[]⟩] } ⟨[],tlN,some d.fs.length⟩=d.used
    unfold Dm.usedFor
    rw [if_neg (by rintro ⟨e,-⟩;cases e)]
   rw [h1,h.used,bytesOf_none hn]
theorem TD.over (h:TD TB N d) {i:Nat} (hi:lk d.names tlN=some i) (g:Fl) (hg:FileP TB (N+1) g) (u:Int) (hu:u=(g.now.length:Nat)) (a:Nat) (ha:a≤N+1):TD TB (N+1) { d with fs:=d.fs.set i g,used:=u,acts:=a }∧({ d with fs:=d.fs.set i g,used:=u,acts:=a }:Dm).file i=g:=by
 have hil:i < d.fs.length:=by
  rcases h.at_ with ⟨e,-⟩ | ⟨j,hj,e,-⟩
  · rw [e] at hi;cases hi
  · rw [e] at hi;cases hi;exact hj
 have hfi:({ d with fs:=d.fs.set i g,used:=u,acts:=a }:Dm).file i=g:=by
  show (d.fs.set i g)[i]?.getD _=_
  rw [List.getElem?_set_self hil];rfl
 have hl:(d.fs.set i g).length=d.fs.length:=List.length_set
 refine ⟨⟨h.sp,?_,?_,fun f hf=>?_,?_,ha,Nat.le_succ_of_le h.ep⟩,hfi⟩
 · rcases h.st with x | ⟨j,hj,x⟩ | ⟨j,hj,x⟩
   · exact .inl x
   · exact .inr (.inl ⟨j,by show j < (d.fs.set i g).length;rw [hl];exact hj,x⟩)
   · exact .inr (.inr ⟨j,by show j < (d.fs.set i g).length;rw [hl];exact hj,x⟩)
 · show (d.fs.set i g).length≤_;rw [hl];have:=h.fsl;omega
 · rcases List.mem_or_eq_of_mem_set hf with h1 | h1
   · exact (h.files f h1).mono (List.prefix_refl _) (Nat.le_succ _)
   · rw [h1];exact hg
 · rw [bytesOf_some (d:={ d with fs:=d.fs.set i g,used:=u,acts:=a }) (i:=i) hi,hfi];exact hu
theorem TD.safed (h:TD TB N d) (a:Nat) (ha:a≤N+1):TD TB (N+1) { d with safe:=d.names,changes:=[],acts:=a }:=by
 refine ⟨h.sp,?_,Nat.le_succ_of_le h.fsl,fun f hf=>(h.files f hf).mono (List.prefix_refl _) (Nat.le_succ _),h.used,ha,Nat.le_succ_of_le h.ep⟩
 rcases h.st with ⟨x,y,z⟩ | ⟨j,hj,x,y,z⟩ | ⟨j,hj,x,y,z⟩
 · exact .inl ⟨x,x,rfl⟩
 · exact .inr (.inr ⟨j,hj,x,x,rfl⟩)
 · exact .inr (.inr ⟨j,hj,x,x,rfl⟩)
theorem TD.create (h:TD TB N d) (hp:d.power=true) (hn:lk d.names tlN=none):TD TB (N+1) (d.create tlN).1∧((d.create tlN).2=0→(d.create tlN).1=Dm.madeT { d with acts:=d.acts+1 })∧(d.plan=[]→(d.create tlN).2=0):=by
 have e:d.create tlN=d.begin Dm.madeT (fun _ e=>e):=by
  unfold Dm.create
  dsimp only
  rw [ask_t hp,hn]
  dsimp only
  rw [if_neg (by decide),if_pos rfl]
  have:¬ 4096≤d.names.length:=by
   rcases h.at_ with ⟨-,x⟩ | ⟨i,-,-,x⟩ <;> rw [x]
   · decide
   · show ¬ 4096≤1;decide
  rw [if_neg this];rfl
 rw [e]
 exact ⟨begin_td (h.made hn).1 (fun _=>h.acted) h.acted,begin_ok,fun hc=>by rw [begin_calm hc]⟩
theorem TD.named (h:TD TB N d) {i:Nat} (hi:lk d.names tlN=some i):i < d.fs.length∧d.used=((d.file i).now.length:Nat)∧FileP TB N (d.file i):=by
 refine ⟨?_,by rw [h.used,bytesOf_some hi],h.file_at i⟩
 rcases h.at_ with ⟨e,-⟩ | ⟨j,hj,e,-⟩
 · rw [e] at hi;cases hi
 · rw [e] at hi;cases hi;exact hj
theorem TD.laid (h:TD TB N d) (hT:TB.length≤1000000) {i:Nat} (hi:lk d.names tlN=some i) (p:List UInt8) (hp:(d.file i).now++p <+: TB) (n:Int):TD TB (N+1) (partOf i p n { d with acts:=d.acts+1 })∧((partOf i p n { d with acts:=d.acts+1 }).names=d.names∧(partOf i p n { d with acts:=d.acts+1 }).safe=d.safe∧(partOf i p n { d with acts:=d.acts+1 }).changes=d.changes∧(d.file i).now.length≤((partOf i p n { d with acts:=d.acts+1 }).file i).now.length)∧(p ≠ []→p.length≤n→((partOf i p n { d with acts:=d.acts+1 }).file i).now=(d.file i).now++p):=by
 obtain ⟨hil,hu,hf⟩:=h.named hi
 have hl:=hp.length_le
 rw [List.length_append] at hl
 unfold partOf
 dsimp only
 split
 · rename_i e
   refine ⟨h.acted,⟨rfl,rfl,rfl,Nat.le_refl _⟩,fun h1 h2=>?_⟩
   rw [List.take_of_length_le (by omega)] at e
   exact absurd e h1
 · rename_i e
   have hq:(d.file i).now++p.take n.toNat <+: TB:=((List.prefix_append_right_inj _).2 (List.take_prefix _ _)).trans hp
   have hql:=hq.length_le
   rw [List.length_append] at hql
   have hw:wrap64 (d.used+(p.take n.toNat).length)=(((d.file i).now++p.take n.toNat).length:Nat):=by
    rw [hu,List.length_append,wrap64_small (by omega) (by omega)];push_cast;rfl
   have ho:=h.over hi ⟨(d.file i).now++p.take n.toNat,(d.file i).safe,(d.file i).loose++[⟨p.take n.toNat,0⟩]⟩ (hf.append _ e hq hT) (wrap64 (d.used+(p.take n.toNat).length)) hw (d.acts+1) (Nat.succ_le_succ h.acts)
   have hlen:(d.file i).now.length≤(({ d with fs:=d.fs.set i ⟨(d.file i).now++p.take n.toNat,(d.file i).safe,(d.file i).loose++[⟨p.take n.toNat,0⟩]⟩,used:=wrap64 (d.used+(p.take n.toNat).length),acts:=d.acts+1 }:Dm).file i).now.length:=by
    rw [ho.2];show _≤((d.file i).now++p.take n.toNat).length;rw [List.length_append];omega
   refine ⟨ho.1,⟨rfl,rfl,rfl,hlen⟩,fun h1 h2=>?_⟩
   have:(({ d with fs:=d.fs.set i ⟨(d.file i).now++p.take n.toNat,(d.file i).safe,(d.file i).loose++[⟨p.take n.toNat,0⟩]⟩,used:=wrap64 (d.used+(p.take n.toNat).length),acts:=d.acts+1 }:Dm).file i).now=(d.file i).now++p:=by
    rw [ho.2];show _++p.take n.toNat=_;rw [List.take_of_length_le (by omega)]
   exact this
theorem TD.append (h:TD TB N d) (hT:TB.length≤1000000) (hpw:d.power=true) {i:Nat} (hi:lk d.names tlN=some i) (p:List UInt8) (hp:(d.file i).now++p <+: TB) (h0:p ≠ []):TD TB (N+1) (d.append tlN p).1∧((d.append tlN p).1.names=d.names∧(d.append tlN p).1.safe=d.safe∧(d.append tlN p).1.changes=d.changes∧(d.file i).now.length≤((d.append tlN p).1.file i).now.length)∧((d.append tlN p).2=0→((d.append tlN p).1.file i).now=(d.file i).now++p∧(d.append tlN p).1.power=true∧(d.append tlN p).1.plan=d.plan∧(d.append tlN p).1.safe=d.safe∧(d.append tlN p).1.changes=d.changes)∧(d.plan=[]→(d.append tlN p).2=0):=by
 obtain ⟨hil,hu,hf⟩:=h.named hi
 have hl:=hp.length_le
 rw [List.length_append] at hl
 have hfit:p.take (max (wrap64 (d.space - d.used)) 0).toNat=p:=by
  rw [h.sp,hu,wrap64_small (by omega) (by omega)]
  exact List.take_of_length_le (by omega)
 have e:d.append tlN p=d.begin (partOf i p p.length) (partOf i p):=by
  unfold Dm.append
  rw [ask_t hpw,hi]
  dsimp only
  rw [if_neg (by omega),hfit,if_neg (by omega)]
 have hnm :=
  begin_kept (P:=fun x=>x.names=d.names∧x.safe=d.safe∧x.changes=d.changes∧(d.file i).now.length≤(x.file i).now.length) (d:=d) (w:=partOf i p p.length) (p:=partOf i p) (h.laid hT hi p hp _).2.1 (fun n=>(h.laid hT hi p hp n).2.1) ⟨rfl,rfl,rfl,Nat.le_refl _⟩ (fun x hx=>hx)
 rw [e]
 refine ⟨begin_td (h.laid hT hi p hp _).1 (fun n=>(h.laid hT hi p hp n).1) h.acted,hnm,fun h1=>?_,fun hc=>by rw [begin_calm hc]⟩
 rw [begin_ok h1]
 refine ⟨(h.laid hT hi p hp _).2.2 h0 (Int.le_refl _),?_⟩
 unfold partOf
 dsimp only
 split
 · exact ⟨hpw,rfl,rfl,rfl⟩
 · exact ⟨hpw,rfl,rfl,rfl⟩
theorem TD.cut (h:TD TB N d) (hT:TB.length≤1000000) (hpw:d.power=true) {i:Nat} (hi:lk d.names tlN=some i) (c:Nat) (hc:c≤(d.file i).now.length):TD TB (N+1) (d.cut tlN c).1∧((d.cut tlN c).1.names=d.names∧(d.cut tlN c).1.safe=d.safe∧(d.cut tlN c).1.changes=d.changes)∧(c≤((d.cut tlN c).1.file i).now.length)∧((d.cut tlN c).2=0→((d.cut tlN c).1.file i).now=(d.file i).now.take c∧(d.cut tlN c).1.power=true∧(d.cut tlN c).1.plan=d.plan∧(d.cut tlN c).1.safe=d.safe∧(d.cut tlN c).1.changes=d.changes)∧(d.plan=[]→(d.cut tlN c).2=0):=by
 obtain ⟨hil,hu,hf⟩:=h.named hi
 have hl:=hf.nowP.length_le
 have hlc:((d.file i).now.take c).length=c:=by rw [List.length_take,Nat.min_eq_left hc]
 have e:d.cut tlN c=d.begin (fun e=>{ (e.setF i ⟨(e.file i).now.take c,(e.file i).safe,(e.file i).loose++[⟨[],c⟩]⟩) with used:=wrap64 (e.used - wrap64 (((e.file i).now.length:Int) - c)) }) (fun _ e=>e):=by
  unfold Dm.cut
  rw [ask_t hpw,hi]
  dsimp only
  rw [if_neg (by omega)];rfl
 have hw:wrap64 (d.used - wrap64 (((d.file i).now.length:Int) - c))=((d.file i).now.take c).length:=by
  rw [hlc,hu,wrap64_small (x:=((d.file i).now.length:Int) - c) (by omega) (by omega),wrap64_small (by omega) (by omega)];omega
 have ho:=h.over hi ⟨(d.file i).now.take c,(d.file i).safe,(d.file i).loose++[⟨[],c⟩]⟩ (hf.cut c hc hT) (wrap64 (d.used - wrap64 (((d.file i).now.length:Int) - c))) hw (d.acts+1) (Nat.succ_le_succ h.acts)
 rw [e]
 refine ⟨begin_td ho.1 (fun n=>h.acted) h.acted,begin_kept (P:=fun x=>x.names=d.names∧x.safe=d.safe∧x.changes=d.changes) ⟨rfl,rfl,rfl⟩ (fun n=>⟨rfl,rfl,rfl⟩) ⟨rfl,rfl,rfl⟩ (fun x hx=>hx),?_,fun h1=>?_,fun hc=>by rw [begin_calm hc]⟩
 · refine begin_kept (P:=fun x=>c≤(x.file i).now.length) ?_ (fun n=>hc) hc (fun x hx=>hx)
   show c≤(({ d with fs:=d.fs.set i ⟨(d.file i).now.take c,(d.file i).safe,(d.file i).loose++[⟨[],c⟩]⟩,used:=wrap64 (d.used - wrap64 (((d.file i).now.length:Int) - c)),acts:=d.acts+1 }:Dm).file i).now.length
   rw [ho.2];exact Nat.le_of_eq hlc.symm
 · rw [begin_ok h1]
   exact ⟨congrArg Fl.now ho.2,hpw,rfl,rfl,rfl⟩
theorem TD.sync (h:TD TB N d) (hT:TB.length≤1000000) (hpw:d.power=true) {i:Nat} (hi:lk d.names tlN=some i):TD TB (N+1) (d.sync tlN).1∧(d.sync tlN).1.names=d.names∧((d.sync tlN).1.file i).now=(d.file i).now∧((d.sync tlN).2=0→(d.sync tlN).1.file i=⟨(d.file i).now,(d.file i).now,[]⟩∧(d.sync tlN).1.power=true∧(d.sync tlN).1.plan=d.plan∧(d.sync tlN).1.safe=d.safe∧(d.sync tlN).1.changes=d.changes)∧(d.plan=[]→(d.sync tlN).2=0):=by
 obtain ⟨hil,hu,hf⟩:=h.named hi
 have e:d.sync tlN=d.begin (fun e=>e.setF i ⟨(e.file i).now,(e.file i).now,[]⟩) (fun _ e=>e):=by
  unfold Dm.sync
  rw [ask_t hpw,hi]
 have ho:=h.over hi ⟨(d.file i).now,(d.file i).now,[]⟩ ((hf.sync hT).mono (List.prefix_refl _) (Nat.le_succ _)) d.used hu (d.acts+1) (Nat.succ_le_succ h.acts)
 have ho2:((({ d with acts:=d.acts+1 }:Dm).setF i ⟨(d.file i).now,(d.file i).now,[]⟩).file i)=⟨(d.file i).now,(d.file i).now,[]⟩:=ho.2
 rw [e]
 refine ⟨begin_td ho.1 (fun n=>h.acted) h.acted,begin_kept (P:=fun x=>x.names=d.names) rfl (fun n=>rfl) rfl (fun x hx=>hx),?_,fun h1=>?_,fun hc=>by rw [begin_calm hc]⟩
 · exact begin_kept (P:=fun x=>(x.file i).now=(d.file i).now) (by have:=congrArg Fl.now ho2;exact this) (fun n=>rfl) rfl (fun x hx=>hx)
 · rw [begin_ok h1]
   exact ⟨ho2,hpw,rfl,rfl,rfl⟩
theorem TD.syncNames (h:TD TB N d) (hpw:d.power=true):TD TB (N+1) d.syncNames.1∧d.syncNames.1.names=d.names∧(∀ i,d.syncNames.1.file i=d.file i)∧(d.syncNames.2=0→d.syncNames.1.safe=d.names∧d.syncNames.1.changes=[]∧d.syncNames.1.power=true∧d.syncNames.1.plan=d.plan)∧(d.plan=[]→d.syncNames.2=0):=by
 have e:d.syncNames=d.begin (fun e=>{ e with safe:=e.names,changes:=[] }) (fun _ e=>e):=by
  unfold Dm.syncNames
  rw [if_neg (by rw [hpw];decide)]
 rw [e]
 refine ⟨begin_td (h.safed (d.acts+1) (Nat.succ_le_succ h.acts)) (fun n=>h.acted) h.acted,begin_kept (P:=fun x=>x.names=d.names) rfl (fun n=>rfl) rfl (fun x hx=>hx),fun i=>begin_kept (P:=fun x=>x.file i=d.file i) rfl (fun n=>rfl) rfl (fun x hx=>hx),fun h1=>?_,fun hc=>by rw [begin_calm hc]⟩
 rw [begin_ok h1]
 exact ⟨rfl,rfl,hpw,rfl⟩
theorem flatten_len (T:List (List UInt8)) (k:Nat) (h:∀ x ∈ T,x.length=k):T.flatten.length=T.length * k:=by
 induction T with
 | nil=>simp
 | cons x r ih =>
   rw [List.flatten_cons,List.length_append,h x List.mem_cons_self,ih fun y hy=>h y (List.mem_cons_of_mem _ hy),List.length_cons,Nat.add_mul];omega
structure Fs where
 held:Nat
 l0:Bool
 l1:Bool
def passedP (e:Int):Int:=if e=31 then 0 else e
def syncP2 (s:Fs) (d:Dm):Fs × Dm × Int :=
 if s.l1=true then (if d.syncNames.2=0 then ({ s with l1:=false },d.syncNames.1,0) else (s,d.syncNames.1,d.syncNames.2)) else (s,d,0)
def syncP (s:Fs) (d:Dm):Fs × Dm × Int :=
 if s.l0=true then (if (d.sync tlN).2=0 then syncP2 { s with l0:=false } (d.sync tlN).1 else (s,(d.sync tlN).1,(d.sync tlN).2)) else syncP2 s d
def layP (T:List (List UInt8)) (s:Fs) (d:Dm):Fs × Dm × Int :=
 if s.held=T.length then syncP s d
 else
  let p:=(T.drop s.held).flatten
  if (d.append tlN p).2=0 then syncP { s with held:=T.length,l0:=true } (d.append tlN p).1
  else ({ s with l0:=true },(d.append tlN p).1,passedP (d.append tlN p).2)
def cutP (T:List (List UInt8)) (n:Int) (s:Fs) (d:Dm):Fs × Dm × Int :=
 if (s.held * 8207:Nat) < n then
  (if (d.cut tlN (s.held * 8207:Nat)).2=0 then layP T { s with l0:=true } (d.cut tlN (s.held * 8207:Nat)).1 else ({ s with l0:=true },(d.cut tlN (s.held * 8207:Nat)).1,(d.cut tlN (s.held * 8207:Nat)).2))
 else layP T s d
def flushP (T:List (List UInt8)) (s:Fs) (d:Dm):Fs × Dm × Int :=
 if (d.length tlN).2=32∧T=[] then (s,d,0)
 else if (d.length tlN).2 ≠ 0∧(d.length tlN).2 ≠ 32 then (s,d,(d.length tlN).2)
 else if (d.length tlN).2=32 then
  (if (d.create tlN).2=0 then cutP T (d.length tlN).1 { s with l0:=true,l1:=true } (d.create tlN).1 else ({ s with l0:=true,l1:=true },(d.create tlN).1,passedP (d.create tlN).2))
 else cutP T (d.length tlN).1 s d
structure FsI (T:List (List UInt8)) (N:Nat) (s:Fs) (d:Dm):Prop where
 td:TD T.flatten N d
 le:s.held≤T.length
 named:∀ i,lk d.names tlN=some i→s.held * 8207≤(d.file i).now.length
 not_:lk d.names tlN=none→s.held=0
 safe:∀ i,lk d.names tlN=some i→s.l0=false→(d.file i).safe=(d.file i).now
 nm:s.l1=false→d.changes=[]∧d.safe=d.names
theorem FsI.mono {T:List (List UInt8)} {N M:Nat} {s:Fs} {d:Dm} (h:FsI T N s d) (hn:N≤M):FsI T M s d:=⟨h.td.mono (List.prefix_refl _) hn,h.le,h.named,h.not_,h.safe,h.nm⟩
theorem FsI.more {T T':List (List UInt8)} {N:Nat} {s:Fs} {d:Dm} (h:FsI T N s d) (ht:T <+: T'):FsI T' N s d:=by
 obtain ⟨t,rfl⟩:=ht
 exact ⟨h.td.mono (by rw [List.flatten_append];exact List.prefix_append _ _) (Nat.le_refl _),by rw [List.length_append];have:=h.le;omega,h.named,h.not_,h.safe,h.nm⟩
theorem FsI.at_sync2 {T:List (List UInt8)} {N:Nat} {s:Fs} {d:Dm} (h:FsI T N s d) (hpw:d.power=true):FsI T (N+1) (syncP2 s d).1 (syncP2 s d).2.1∧(d.plan=[]→(syncP2 s d).2.2=0∧(syncP2 s d).1={ s with l1:=false }∧(syncP2 s d).2.1.plan=[]∧(syncP2 s d).2.1.power=true∧(syncP2 s d).2.1.names=d.names∧∀ i,(syncP2 s d).2.1.file i=d.file i):=by
 unfold syncP2
 obtain ⟨h1,h2,h3,h4,h5⟩:=h.td.syncNames hpw
 have hk:∀ x:Bool,(x=false→d.syncNames.1.changes=[]∧d.syncNames.1.safe=d.syncNames.1.names)→FsI T (N+1) { s with l1:=x } d.syncNames.1:=fun x hx =>
  ⟨h1,h.le,fun i hi=>by rw [h3];rw [h2] at hi;exact h.named i hi,fun hi=>by rw [h2] at hi;exact h.not_ hi,fun i hi hs=>by rw [h3];rw [h2] at hi;exact h.safe i hi hs,hx⟩
 split
 · rename_i hl
   split
   · rename_i he
     obtain ⟨a,b,c,e⟩:=h4 he
     refine ⟨hk false fun _=>⟨b,by rw [a,h2]⟩,fun hp=>⟨rfl,rfl,by rw [e,hp],c,h2,h3⟩⟩
   · rename_i he
     refine ⟨?_,fun hp=>absurd (h5 hp) he⟩
     have:=hk s.l1 fun hx=>absurd hl (by rw [hx];decide)
     exact this
 · rename_i hl
   have hl:s.l1=false:=by simpa using hl
   refine ⟨h.mono (Nat.le_succ _),fun hp=>⟨rfl,?_,hp,hpw,rfl,fun _=>rfl⟩⟩
   obtain ⟨a,b,c⟩:=s;cases hl;rfl
theorem FsI.at_sync {T:List (List UInt8)} {N:Nat} {s:Fs} {d:Dm} (h:FsI T N s d) (hT:T.flatten.length≤1000000) (hpw:d.power=true) {i:Nat} (hi:lk d.names tlN=some i):FsI T (N+2) (syncP s d).1 (syncP s d).2.1∧(d.plan=[]→(syncP s d).2.2=0∧(syncP s d).1=⟨s.held,false,false⟩∧(syncP s d).2.1.plan=[]∧(syncP s d).2.1.power=true∧(syncP s d).2.1.names=d.names∧((syncP s d).2.1.file i).now=(d.file i).now):=by
 unfold syncP
 obtain ⟨h1,h2,h3,h4,h5⟩:=h.td.sync hT hpw hi
 have hu:∀ j,lk (d.sync tlN).1.names tlN=some j→j=i:=fun j hj=>by rw [h2,hi] at hj;cases hj;rfl
 split
 · rename_i hl
   split
   · rename_i he
     obtain ⟨a,b,c,e,g⟩:=h4 he
     have hk:FsI T (N+1) { s with l0:=false } (d.sync tlN).1 :=
      ⟨h1,h.le,fun j hj=>by obtain rfl:=hu j hj;rw [h3];exact h.named j hi,(fun hj=>(by rw [h2,hi] at hj;cases hj)),fun j hj _=>by obtain rfl:=hu j hj;rw [a],fun hx=>by rw [g,e,h2];exact h.nm hx⟩
     obtain ⟨x,y⟩:=hk.at_sync2 b
     refine ⟨x,fun hp=>?_⟩
     obtain ⟨y1,y2,y3,y4,y5,y6⟩:=y (by rw [c,hp])
     exact ⟨y1,y2,y3,y4,by rw [y5,h2],by rw [y6,h3]⟩
   · rename_i he
     refine ⟨(?_:FsI T (N+1) s (d.sync tlN).1).mono (Nat.le_succ _),fun hp=>absurd (h5 hp) he⟩
     refine ⟨h1,h.le,fun j hj=>by obtain rfl:=hu j hj;rw [h3];exact h.named j hi,(fun hj=>(by rw [h2,hi] at hj;cases hj)),(fun j hj hs=>(by rw [hl] at hs;cases hs)),fun hx=>?_⟩
     obtain ⟨a,b⟩:=h.nm hx
     have:=begin_kept (P:=fun x=>x.changes=[]∧x.safe=d.names) (d:=d) (w:=fun e=>e.setF i ⟨(e.file i).now,(e.file i).now,[]⟩) (p:=fun _ e=>e) ⟨a,b⟩ (fun _=>⟨a,b⟩) ⟨a,b⟩ (fun x hx=>hx)
     have e:d.sync tlN=d.begin (fun e=>e.setF i ⟨(e.file i).now,(e.file i).now,[]⟩) (fun _ e=>e):=by
      unfold Dm.sync
      rw [ask_t hpw,hi]
     rw [h2,e];exact this
 · rename_i hl
   have hl:s.l0=false:=by simpa using hl
   obtain ⟨x,y⟩:=h.at_sync2 hpw
   refine ⟨x.mono (Nat.le_succ _),fun hp=>?_⟩
   obtain ⟨y1,y2,y3,y4,y5,y6⟩:=y hp
   refine ⟨y1,?_,y3,y4,y5,by rw [y6]⟩
   rw [y2];obtain ⟨a,b,c⟩:=s;cases hl;rfl
theorem FsI.at_lay {T:List (List UInt8)} {N:Nat} {s:Fs} {d:Dm} (h:FsI T N s d) (hl:∀ x ∈ T,x.length=8207) (hT:T.flatten.length≤1000000) (hpw:d.power=true) {i:Nat} (hi:lk d.names tlN=some i) (hn:(d.file i).now.length=s.held * 8207):FsI T (N+3) (layP T s d).1 (layP T s d).2.1∧(d.plan=[]→(layP T s d).2.2=0∧(layP T s d).1=⟨T.length,false,false⟩∧(layP T s d).2.1.plan=[]∧(layP T s d).2.1.power=true∧(layP T s d).2.1.names=d.names∧((layP T s d).2.1.file i).now=T.flatten):=by
 have hpre:=(h.td.file_at i).nowP
 have hnow:(d.file i).now=(T.take s.held).flatten:=by
  obtain ⟨t,ht⟩:=hpre
  have hs:T.flatten=(T.take s.held).flatten++(T.drop s.held).flatten:=by rw [← List.flatten_append,List.take_append_drop]
  have hlen:((T.take s.held).flatten).length=s.held * 8207:=by
   rw [flatten_len _ 8207 fun x hx=>hl x (List.mem_of_mem_take hx),List.length_take,Nat.min_eq_left h.le]
  rw [hs] at ht
  exact (List.append_inj ht (by rw [hn,hlen])).1
 unfold layP
 split
 · rename_i e
   obtain ⟨x,y⟩:=h.at_sync hT hpw hi
   refine ⟨x.mono (Nat.le_succ _),fun hp=>?_⟩
   obtain ⟨y1,y2,y3,y4,y5,y6⟩:=y hp
   refine ⟨y1,by rw [y2,e],y3,y4,y5,?_⟩
   rw [y6,hnow,e,List.take_length]
 · rename_i e
   have hlt:s.held < T.length:=Nat.lt_of_le_of_ne h.le e
   have hcat:(d.file i).now++(T.drop s.held).flatten=T.flatten:=by rw [hnow,← List.flatten_append,List.take_append_drop]
   have h0:(T.drop s.held).flatten ≠ []:=by
    intro e0
    have:=flatten_len (T.drop s.held) 8207 fun x hx=>hl x (List.mem_of_mem_drop hx)
    rw [e0,List.length_drop] at this
    simp only [List.length_nil] at this;omega
   obtain ⟨h1,⟨h2,h2s,h2c,h2l⟩,h3,h4⟩:=h.td.append hT hpw hi (T.drop s.held).flatten (by rw [hcat];exact List.prefix_refl _) h0
   have hu:∀ j,lk (d.append tlN (T.drop s.held).flatten).1.names tlN=some j→j=i:=fun j hj=>by rw [h2,hi] at hj;cases hj;rfl
   dsimp only
   split
   · rename_i he
     obtain ⟨a,b,c,e1,g⟩:=h3 he
     rw [hcat] at a
     have hk:FsI T (N+1) ⟨T.length,true,s.l1⟩ (d.append tlN (T.drop s.held).flatten).1 :=
      ⟨h1,Nat.le_refl _,fun j hj=>by obtain rfl:=hu j hj;rw [a,flatten_len _ 8207 hl];exact Nat.le_refl _,(fun hj=>(by rw [h2,hi] at hj;cases hj)),(fun j hj hs=>(by cases hs)),fun hx=>by rw [g,e1,h2];exact h.nm hx⟩
     obtain ⟨x,y⟩:=hk.at_sync hT b (by rw [h2];exact hi)
     refine ⟨x,fun hp=>?_⟩
     obtain ⟨y1,y2,y3,y4,y5,y6⟩:=y (by rw [c,hp])
     exact ⟨y1,y2,y3,y4,by rw [y5,h2],by rw [y6,a]⟩
   · rename_i he
     refine ⟨(?_:FsI T (N+1) { s with l0:=true } _).mono (by omega),fun hp=>absurd (h4 hp) he⟩
     exact ⟨h1,h.le,fun j hj=>by obtain rfl:=hu j hj;exact Nat.le_trans (h.named j hi) h2l,(fun hj=>(by rw [h2,hi] at hj;cases hj)),(fun j hj hs=>(by cases hs)),fun hx=>by rw [h2c,h2s,h2];exact h.nm hx⟩
theorem FsI.at_cut {T:List (List UInt8)} {N:Nat} {s:Fs} {d:Dm} (h:FsI T N s d) (hl:∀ x ∈ T,x.length=8207) (hT:T.flatten.length≤1000000) (hpw:d.power=true) {i:Nat} (hi:lk d.names tlN=some i):FsI T (N+4) (cutP T (d.file i).now.length s d).1 (cutP T (d.file i).now.length s d).2.1∧(d.plan=[]→(cutP T (d.file i).now.length s d).2.2=0∧(cutP T (d.file i).now.length s d).1=⟨T.length,false,false⟩∧(cutP T (d.file i).now.length s d).2.1.plan=[]∧(cutP T (d.file i).now.length s d).2.1.power=true∧(cutP T (d.file i).now.length s d).2.1.names=d.names∧((cutP T (d.file i).now.length s d).2.1.file i).now=T.flatten):=by
 unfold cutP
 have hle:=h.named i hi
 split
 · rename_i hc
   obtain ⟨h1,⟨h2,h2s,h2c⟩,h3,h4,h5⟩:=h.td.cut hT hpw hi (s.held * 8207) hle
   have hu:∀ j,lk (d.cut tlN (s.held * 8207:Nat)).1.names tlN=some j→j=i:=fun j hj=>by rw [h2,hi] at hj;cases hj;rfl
   have hk:FsI T (N+1) { s with l0:=true } (d.cut tlN (s.held * 8207:Nat)).1 :=
    ⟨h1,h.le,fun j hj=>by obtain rfl:=hu j hj;exact h3,(fun hj=>(by rw [h2,hi] at hj;cases hj)),(fun j hj hs=>(by cases hs)),fun hx=>by rw [h2c,h2s,h2];exact h.nm hx⟩
   split
   · rename_i he
     obtain ⟨a,b,c,e,g⟩:=h4 he
     obtain ⟨x,y⟩:=hk.at_lay hl hT b (by rw [h2];exact hi) (by rw [a,List.length_take,Nat.min_eq_left hle])
     refine ⟨x,fun hp=>?_⟩
     obtain ⟨y1,y2,y3,y4,y5,y6⟩:=y (by rw [c,hp])
     exact ⟨y1,y2,y3,y4,by rw [y5,h2],y6⟩
   · rename_i he
     exact ⟨hk.mono (by omega),fun hp=>absurd (h5 hp) he⟩
 · rename_i hc
   obtain ⟨x,y⟩:=h.at_lay hl hT hpw hi (by omega)
   exact ⟨x.mono (Nat.le_succ _),y⟩
theorem length_t (hpw:d.power=true):d.length tlN=match lk d.names tlN with | none=>(0,32) | some i=>((d.file i).now.length,0):=by
 unfold Dm.length
 rw [ask_t hpw]
 cases lk d.names tlN <;> rfl
theorem FsI.at_flush {T:List (List UInt8)} {N:Nat} {s:Fs} {d:Dm} (h:FsI T N s d) (hl:∀ x ∈ T,x.length=8207) (hT:T.flatten.length≤1000000) (hpw:d.power=true):FsI T (N+5) (flushP T s d).1 (flushP T s d).2.1∧(d.plan=[]→(flushP T s d).2.2=0∧(flushP T s d).1.held=T.length∧(flushP T s d).2.1.plan=[]∧(flushP T s d).2.1.power=true ∧
 ((T=[]∧lk d.names tlN=none∧flushP T s d=(s,d,0))∨∃ i,(flushP T s d).1=⟨T.length,false,false⟩∧lk (flushP T s d).2.1.names tlN=some i∧((flushP T s d).2.1.file i).now=T.flatten)):=by
 unfold flushP
 rw [length_t hpw]
 cases hn:lk d.names tlN with
 | none =>
   dsimp only
   by_cases h0:T=[]
   · rw [if_pos ⟨rfl,h0⟩]
     refine ⟨h.mono (by omega),fun hp=>⟨rfl,?_,hp,hpw,.inl ⟨h0,rfl,rfl⟩⟩⟩
     show s.held=_;rw [h.not_ hn,h0];rfl
   · rw [if_neg (by rintro ⟨-,e⟩;exact h0 e),if_neg (by rintro ⟨-,e⟩;exact e rfl),if_pos rfl]
     obtain ⟨h1,h2,h3⟩:=h.td.create hpw hn
     have hh:=h.not_ hn
     have hk:FsI T (N+1) ⟨s.held,true,true⟩ (d.create tlN).1:=⟨h1,h.le,fun i hi=>by show s.held * 8207≤_;rw [hh];omega,fun _=>hh,(fun j hj hs=>(by cases hs)),fun hx=>by cases hx⟩
     split
     · rename_i he
       have e:=h2 he
       obtain ⟨hm,hmn⟩:=h.td.made hn
       have hf:((Dm.madeT { d with acts:=d.acts+1 }).file d.fs.length)=⟨[],[],[]⟩:=by
        show (d.fs++[(⟨[],[],[]⟩:Fl)])[d.fs.length]?.getD _=_
        rw [List.getElem?_append_right (Nat.le_refl _),Nat.sub_self];rfl
       have hpw':(d.create tlN).1.power=true:=by rw [e];exact hpw
       have hmn':lk (d.create tlN).1.names tlN=some d.fs.length:=by rw [e];exact hmn
       have hlen:((0:Nat):Int)=((((d.create tlN).1.file d.fs.length).now.length:Nat):Int):=by rw [e,hf];rfl
       obtain ⟨x,y⟩:=hk.at_cut hl hT hpw' hmn'
       rw [← hlen] at x y
       refine ⟨x,fun hp=>?_⟩
       obtain ⟨y1,y2,y3,y4,y5,y6⟩:=y (by rw [e];exact hp)
       exact ⟨y1,by have:=congrArg Fs.held y2;exact this,y3,y4,.inr ⟨d.fs.length,y2,(congrArg (fun n=>lk n tlN) y5).trans hmn',y6⟩⟩
     · rename_i he
       exact ⟨hk.mono (by omega),fun hp=>absurd (h3 hp) he⟩
 | some i =>
   dsimp only
   rw [if_neg (by rintro ⟨e,-⟩;cases e),if_neg (by rintro ⟨e,-⟩;exact e rfl),if_neg (by decide)]
   obtain ⟨x,y⟩:=h.at_cut hl hT hpw hn
   refine ⟨x.mono (Nat.le_succ _),fun hp=>?_⟩
   obtain ⟨y1,y2,y3,y4,y5,y6⟩:=y hp
   exact ⟨y1,by have:=congrArg Fs.held y2;exact this,y3,y4,.inr ⟨i,y2,(congrArg (fun n=>lk n tlN) y5).trans hn,y6⟩⟩
theorem FsI.ended {T:List (List UInt8)} {N:Nat} {s:Fs} {d:Dm} (h:FsI T N s d) (hl:∀ x ∈ T,x.length=8207) (hT:T.flatten.length≤1000000) (hpw:d.power=true) (hp:d.plan=[]) :
 (flushP T s d).2.2=0∧(flushP T s d).1.held=T.length∧flushP T (flushP T s d).1 (flushP T s d).2.1=((flushP T s d).1,(flushP T s d).2.1,0)∧(flushP T s d).2.1.power=true∧(lk (flushP T s d).2.1.kept tlN).getD []=T.flatten∧(T ≠ []→(lk (flushP T s d).2.1.kept tlN).isSome=true):=by
 obtain ⟨h1,h2⟩:=h.at_flush hl hT hpw
 obtain ⟨e0,eh,ep,ew,hc⟩:=h2 hp
 refine ⟨e0,eh,?_,ew,?_⟩
 · rcases hc with ⟨hT0,hn,e⟩ | ⟨i,hs,hn,hb⟩
   · rw [e];exact e
   · generalize hd:flushP T s d=r at *
     obtain ⟨s1,d1,e1⟩:=r
     dsimp only at *
     subst hs
     unfold flushP
     rw [length_t ew,hn]
     dsimp only
     rw [if_neg (by rintro ⟨e,-⟩;cases e),if_neg (by rintro ⟨e,-⟩;exact e rfl),if_neg (by decide)]
     unfold cutP
     rw [if_neg (by rw [hb,flatten_len _ 8207 hl];exact Int.lt_irrefl _)]
     unfold layP
     rw [if_pos rfl]
     rfl
 · rw [lk_kept]
   rcases hc with ⟨hT0,hn,e⟩ | ⟨i,hs,hn,hb⟩
   · rw [e]
     have:d.safe=[]:=by
      rcases h.td.st with ⟨a,b,c⟩ | ⟨i,hi,a,b,c⟩ | ⟨i,hi,a,b,c⟩
      · exact b
      · exact b
      · rw [a,lk_one,if_pos rfl] at hn;cases hn
     dsimp only
     rw [this,hT0]
     exact ⟨rfl,fun x=>absurd rfl x⟩
   · obtain ⟨-,hsn⟩:=h1.nm (by rw [hs])
     have hsf:=h1.safe i hn (by rw [hs])
     rw [hsn,hn]
     exact ⟨hsf.trans hb,fun _=>rfl⟩
theorem keepAll_mem {TB:List UInt8} {N:Nat} (hT:TB.length≤1000000):∀ (l:List Nat) (ns:List Int) (fs:List Fl),(∀ f ∈ fs,FileP TB N f)→∀ f ∈ keepAll l ns fs,FileP TB N f:=by
 intro l
 induction l with
 | nil=>intro ns fs h;exact h
 | cons i r ih =>
   intro ns fs h
   refine ih _ _ fun f hf=>?_
   rcases List.mem_or_eq_of_mem_set hf with h1 | h1
   · exact h f h1
   · rw [h1]
     refine FileP.keep ?_ _ hT
     cases e:fs[i]? with
     | none=>exact FileP.new _ _
     | some g=>exact h g (List.mem_of_getElem? e)
theorem keepAll_loose (j:Nat):∀ (l:List Nat) (ns:List Int) (fs:List Fl),j < fs.length→(j ∈ l∨((fs[j]?.getD ⟨[],[],[]⟩).loose=[]∧(fs[j]?.getD ⟨[],[],[]⟩).safe=(fs[j]?.getD ⟨[],[],[]⟩).now))→((keepAll l ns fs)[j]?.getD ⟨[],[],[]⟩).loose=[]∧((keepAll l ns fs)[j]?.getD ⟨[],[],[]⟩).safe=((keepAll l ns fs)[j]?.getD ⟨[],[],[]⟩).now:=by
 intro l
 induction l with
 | nil=>intro ns fs hj h;exact h.resolve_left (by simp)
 | cons i r ih =>
   intro ns fs hj h
   refine ih _ _ (by rw [List.length_set];exact hj) ?_
   by_cases hij:i=j
   · subst hij
     right
     rw [List.getElem?_set_self hj]
     exact ⟨rfl,rfl⟩
   · rcases h with h | h
     · left;exact (List.mem_cons.1 h).resolve_left fun e=>hij e.symm
     · right;rw [List.getElem?_set_ne hij];exact h
variable {TB : List UInt8} {N : Nat} {d : Dm}
theorem TD.restart (h:TD TB N d) (hT:TB.length≤1000000) (nm:Int) (ns:List Int):TD TB (N+1) (d.restart nm ns)∧(d.restart nm ns).power=true∧(d.restart nm ns).plan=[]∧(d.restart nm ns).changes=[]∧(d.restart nm ns).safe=(d.restart nm ns).names∧∀ i,lk (d.restart nm ns).names tlN=some i→((d.restart nm ns).file i).loose=[]∧((d.restart nm ns).file i).safe=((d.restart nm ns).file i).now:=by
 have hl:(keepAll d.reach ns d.fs).length=d.fs.length:=keepAll_len _ _ _
 have hnm:(d.restart nm ns).names=[]∨∃ i,i < d.fs.length∧i ∈ d.reach∧(d.restart nm ns).names=[(tlN,i)]:=by
  show chs (d.changes.take (max nm 0).toNat) d.safe=[]∨∃ i,i < d.fs.length∧i ∈ d.reach∧chs (d.changes.take (max nm 0).toNat) d.safe=[(tlN,i)]
  rcases h.st with ⟨a,b,c⟩ | ⟨i,hi,a,b,c⟩ | ⟨i,hi,a,b,c⟩
  · rw [b,c,List.take_nil];exact .inl rfl
  · rw [b,c]
    cases (max nm 0).toNat with
    | zero=>exact .inl rfl
    | succ k =>
      refine .inr ⟨i,hi,mem_reach.2 (.inr ⟨_,by rw [c];exact List.mem_singleton.2 rfl,rfl⟩),?_⟩
      rw [List.take_succ_cons,List.take_nil]
      show Chg.act ⟨[],tlN,some i⟩ []=_
      unfold Chg.act;dsimp only
      rw [if_neg (by decide)];rfl
  · rw [b,c,List.take_nil]
    exact .inr ⟨i,hi,mem_reach.2 (.inl ⟨(tlN,i),by rw [b];exact List.mem_singleton.2 rfl,rfl⟩),rfl⟩
 have hsn:(d.restart nm ns).safe=(d.restart nm ns).names:=rfl
 have hfp:∀ f ∈ (d.restart nm ns).fs,FileP TB (N+1) f:=fun f hf=>(keepAll_mem hT d.reach ns d.fs h.files f hf).mono (List.prefix_refl _) (Nat.le_succ _)
 have hfs:(d.restart nm ns).fs=keepAll d.reach ns d.fs:=rfl
 refine ⟨⟨h.sp,?_,?_,hfp,?_,Nat.le_succ_of_le h.acts,?_⟩,rfl,rfl,rfl,hsn,fun i hi=>?_⟩
 · rcases hnm with e | ⟨i,hi,-,e⟩
   · exact .inl ⟨e,hsn.trans e,rfl⟩
   · exact .inr (.inr ⟨i,by rw [hfs,hl];exact hi,e,hsn.trans e,rfl⟩)
 · rw [hfs,hl];have:=h.fsl;omega
 · have hu:(d.restart nm ns).used=(d.restart nm ns).names.foldl (fun u p=>wrap64 (u+(((d.restart nm ns).fs[p.2]?.getD ⟨[],[],[]⟩).now.length:Int))) 0:=rfl
   rw [hu]
   rcases hnm with e | ⟨i,hi,-,e⟩
   · rw [e];unfold Dm.bytesOf;rw [e];rfl
   · have hi2:lk (d.restart nm ns).names tlN=some i:=by rw [e,lk_one,if_pos rfl]
     have key:(d.restart nm ns).fs[i]?.getD ⟨[],[],[]⟩=(d.restart nm ns).file i:=rfl
     rw [bytesOf_some hi2,e,List.foldl_cons,List.foldl_nil]
     dsimp only
     rw [key]
     have hf:FileP TB (N+1) ((d.restart nm ns).file i):=by
      unfold Dm.file
      cases e2:(d.restart nm ns).fs[i]? with
      | none=>exact FileP.new _ _
      | some f=>exact hfp f (List.mem_of_getElem? e2)
     have:=hf.nowP.length_le
     rw [wrap64_small (by omega) (by omega)];omega
 · show d.epoch+1≤_;have:=h.ep;omega
 · rcases hnm with e | ⟨j,hj,hr,e⟩
   · rw [e] at hi;cases hi
   · rw [e,lk_one,if_pos rfl] at hi
     obtain rfl:j=i:=by cases hi;rfl
     exact keepAll_loose j d.reach ns d.fs hj (.inl hr)
theorem FsI.opened {T:List (List UInt8)} (h:TD T.flatten N d) (hl:∀ x ∈ T,x.length=8207) (hc:d.changes=[]) (hs:d.safe=d.names) (hf:∀ i,lk d.names tlN=some i→(d.file i).safe=(d.file i).now):FsI T N ⟨(d.bytesOf tlN).length / 8207,false,false⟩ d:=by
 refine ⟨h,?_,fun i hi=>?_,fun hn=>?_,fun i hi _=>hf i hi,fun _=>⟨hc,hs⟩⟩
 · show (d.bytesOf tlN).length / 8207≤_
   have:(d.bytesOf tlN).length≤T.flatten.length:=by
    cases e:lk d.names tlN with
    | none=>rw [bytesOf_none e];exact Nat.zero_le _
    | some i=>rw [bytesOf_some e];exact (h.file_at i).nowP.length_le
   rw [flatten_len _ 8207 hl] at this
   exact Nat.div_le_of_le_mul (by rw [Nat.mul_comm];exact this)
 · show (d.bytesOf tlN).length / 8207 * 8207≤_
   rw [bytesOf_some hi];exact Nat.div_mul_le_self _ _
 · show (d.bytesOf tlN).length / 8207=0
   rw [bytesOf_none hn,List.length_nil,Nat.zero_div]
end
end Go.Proofs.YtgkehahklccacaaGreatDoor
