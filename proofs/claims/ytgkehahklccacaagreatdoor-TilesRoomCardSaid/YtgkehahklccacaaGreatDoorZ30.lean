import Derived.Test.YtgkehahklccacaaGreatDoorZ28
import Derived.Test.YtgkehahklccacaaGreatDoorZ29
import Derived.Test.YtgkehahklccacaaGreatDoorZ10
namespace Go.Proofs.YtgkehahklccacaaGreatDoor
open Go Go.RowKit
open Go.Lib (hid)
set_option maxRecDepth 100000
set_option maxHeartbeats 1000000
set_option linter.unusedVariables false
set_option linter.unusedSimpArgs false
section
open Go.Maps Go.WideMaps Go.ChangeMaps
def TT.fs (T:TT):Fs:=⟨T.held,T.l0,T.l1⟩
def TT.put (T:TT) (s:Fs):TT:={ T with held:=s.held,l0:=s.l0,l1:=s.l1 }
def TT.tls (T:TT):List (List UInt8):=(List.range (T.L.length / 256)).map fun j=>tileP T.wd.toNat j (chunk T.L j)
def toD (T:TT) (r:Fs × Dm × Int):Dm × TT × Int:=(r.2.1,T.put r.1,r.2.2)
theorem tls_len (T:TT):T.tls.length=T.L.length / 256:=by simp [TT.tls]
theorem tls_each (T:TT):∀ x ∈ T.tls,x.length=8207:=by
 intro x hx
 obtain ⟨j,hj,rfl⟩:=List.mem_map.1 hx
 have hj:=List.mem_range.1 hj
 rw [tileP_len]
 have:(chunk T.L j).length=256:=by unfold chunk;rw [List.length_take,List.length_drop];omega
 omega
theorem tls_flat (T:TT):T.tls.flatten.length=T.L.length / 256 * 8207:=by rw [flatten_len _ 8207 (tls_each T),tls_len]
theorem tls_drop (T:TT) (m:Nat) (hm:m≤T.L.length / 256):(T.tls.drop m).flatten=tilesB T m (T.L.length / 256 - m):=by
 unfold TT.tls tilesB
 congr 1
 apply List.ext_getElem?
 intro i
 rw [List.getElem?_drop,List.getElem?_map,List.getElem?_map]
 by_cases h:i < T.L.length / 256 - m
 · rw [List.getElem?_range h,List.getElem?_range (by omega)];rfl
 · rw [List.getElem?_eq_none (by simp;omega),List.getElem?_eq_none (by simp;omega)];rfl
theorem sync2_eq (d:Dm) (T:TT):syncD2 d T=toD T (syncP2 T.fs d):=by
 unfold syncD2 syncP2 toD
 by_cases h:T.l1=true
 · have h':T.fs.l1=true:=h
   rw [if_pos h,if_pos h']
   by_cases h2:d.syncNames.2=0
   · rw [if_neg (by rw [h2];decide),if_pos h2];rfl
   · rw [if_pos h2,if_neg h2];rfl
 · have h':¬ T.fs.l1=true:=h
   rw [if_neg h,if_neg h']
   have:({ T with l1:=false }:TT)=T:=by cases T;simp_all
   rw [if_neg (fun q=>q rfl),this];rfl
theorem sync_eq (d:Dm) (T:TT):syncD d T=toD T (syncP T.fs d):=by
 rw [syncD_eq]
 unfold syncP
 by_cases h:T.l0=true
 · have h':T.fs.l0=true:=h
   rw [if_pos h,if_pos h']
   by_cases h2:(d.sync tlN).2=0
   · rw [if_neg (fun q=>q h2),if_pos h2,sync2_eq];rfl
   · rw [if_pos h2,if_neg h2];rfl
 · have h':¬ T.fs.l0=true:=h
   rw [if_neg h,if_neg h']
   have:({ T with l0:=false }:TT)=T:=by cases T;simp_all
   rw [this,sync2_eq]
theorem lay_eq (d:Dm) (T:TT) (hh:T.held≤T.L.length / 256):fl4 d T=toD T (layP T.tls T.fs d):=by
 unfold fl4 appD layP
 rw [tls_len]
 by_cases h:T.held=T.L.length / 256
 · have h':T.fs.held=T.L.length / 256:=h
   rw [if_pos h,if_pos h',if_neg (fun q=>q rfl),sync_eq]
 · have h':¬ T.fs.held=T.L.length / 256:=h
   rw [if_neg h,if_neg h']
   have hd:(T.tls.drop T.fs.held).flatten=tilesB T T.held (T.L.length / 256 - T.held):=tls_drop T T.held hh
   dsimp only
   rw [hd]
   by_cases h2:(d.append tlN (tilesB T T.held (T.L.length / 256 - T.held))).2=0
   · rw [if_pos h2,if_neg (c:=(d.append tlN (tilesB T T.held (T.L.length / 256 - T.held))).2 ≠ 0) (fun q=>q h2)]
     rw [if_neg (fun q=>q rfl),sync_eq];rfl
   · rw [if_neg h2,if_pos (c:=(d.append tlN (tilesB T T.held (T.L.length / 256 - T.held))).2 ≠ 0) h2]
     rw [if_pos h2];rfl
theorem cut_eq (N:Int) (d:Dm) (T:TT) (hh:T.held≤T.L.length / 256):fl3 N d T=toD T (cutP T.tls N T.fs d):=by
 unfold fl3 cutP
 by_cases h:N > ((T.held * 8207:Nat):Int)
 · have h':((T.fs.held * 8207:Nat):Int) < N:=h
   rw [if_pos h,if_pos h']
   dsimp only
   by_cases h2:(d.cut tlN ((T.held * 8207:Nat):Int)).2=0
   · have h2':(d.cut tlN ((T.fs.held * 8207:Nat):Int)).2=0:=h2
     rw [if_neg (fun q=>q h2),if_pos h2',lay_eq _ { T with l0:=true } hh];rfl
   · have h2':¬ (d.cut tlN ((T.fs.held * 8207:Nat):Int)).2=0:=h2
     rw [if_pos h2,if_neg h2'];rfl
 · have h':¬ ((T.fs.held * 8207:Nat):Int) < N:=h
   rw [if_neg h,if_neg h',lay_eq _ _ hh]
theorem flush_eq (d:Dm) (T:TT) (hh:T.held≤T.L.length / 256) (hl:T.live d tlN=0):flushD d T=toD T (flushP T.tls T.fs d):=by
 unfold flushD flushP
 rw [if_neg (fun q=>q hl)]
 have he:T.tls=[] ↔ T.L.length / 256=0:=by rw [← tls_len];exact List.length_eq_zero_iff.symm
 by_cases h1:(d.length tlN).2=32
 · by_cases h2:T.L.length / 256=0
   · rw [if_pos h1,if_pos h2,if_pos ⟨h1,he.2 h2⟩];rfl
   · rw [if_neg (c:=(d.length tlN).2=32∧T.tls=[]) (fun q=>h2 (he.1 q.2)),if_neg (c:=(d.length tlN).2 ≠ 0∧(d.length tlN).2 ≠ 32) (fun q=>q.2 h1)]
     rw [if_pos h1,if_pos h1,if_neg h2]
     unfold fl2
     rw [if_pos rfl]
     dsimp only
     by_cases h3:(d.create tlN).2=0
     · rw [if_neg (fun q=>q h3),if_pos h3,cut_eq _ _ { T with l0:=true,l1:=true } hh];rfl
     · rw [if_pos h3,if_neg h3];rfl
 · by_cases h2:(d.length tlN).2=0
   · rw [if_neg (c:=(d.length tlN).2=32∧T.tls=[]) (fun q=>h1 q.1),if_neg (c:=(d.length tlN).2 ≠ 0∧(d.length tlN).2 ≠ 32) (fun q=>q.1 h2)]
     rw [if_neg h1,if_neg h1,if_neg (fun q=>q h2)]
     unfold fl2
     rw [if_neg (by decide),cut_eq _ _ _ hh]
   · rw [if_neg (c:=(d.length tlN).2=32∧T.tls=[]) (fun q=>h1 q.1),if_pos (c:=(d.length tlN).2 ≠ 0∧(d.length tlN).2 ≠ 32) ⟨h2,h1⟩]
     rw [if_neg h1,if_pos h2];rfl
end
section
open Go.Maps Go.WideMaps Go.ChangeMaps
def EC (d x:Dm):Prop:=x.epoch=d.epoch∧x.claims=d.claims
theorem EC.refl (d:Dm):EC d d:=⟨rfl,rfl⟩
theorem EC.trans {a b c:Dm} (h:EC a b) (k:EC b c):EC a c:=⟨k.1.trans h.1,k.2.trans h.2⟩
theorem create_ec (d:Dm) (s:Nm):EC d (d.create s).1:=by
 unfold Dm.create
 dsimp only
 split
 · exact EC.refl d
 · split
   · split
     · exact EC.refl d
     · exact begin_kept (P:=EC d) ⟨rfl,rfl⟩ (fun _=>⟨rfl,rfl⟩) ⟨rfl,rfl⟩ (fun x h=>h)
   · exact EC.refl d
theorem partOf_ec (i:Nat) (fit:List UInt8) (n:Int) (e:Dm):EC e (partOf i fit n e):=by
 unfold partOf
 dsimp only
 split
 · exact EC.refl e
 · exact ⟨rfl,rfl⟩
theorem append_ec (d:Dm) (s:Nm) (p:List UInt8):EC d (d.append s p).1:=by
 unfold Dm.append
 split
 · split
   · exact EC.refl d
   · dsimp only
     split <;> exact begin_kept (P:=EC d) (partOf_ec _ _ _ _) (fun _=>partOf_ec _ _ _ _) ⟨rfl,rfl⟩ (fun x h=>h)
 · exact EC.refl d
theorem cut_ec (d:Dm) (s:Nm) (n:Int):EC d (d.cut s n).1:=by
 unfold Dm.cut
 split
 · split
   · exact EC.refl d
   · exact begin_kept (P:=EC d) ⟨rfl,rfl⟩ (fun _=>⟨rfl,rfl⟩) ⟨rfl,rfl⟩ (fun x h=>h)
 · exact EC.refl d
theorem sync_ec (d:Dm) (s:Nm):EC d (d.sync s).1:=by
 unfold Dm.sync
 split
 · exact begin_kept (P:=EC d) ⟨rfl,rfl⟩ (fun _=>⟨rfl,rfl⟩) ⟨rfl,rfl⟩ (fun x h=>h)
 · exact EC.refl d
theorem syncNames_ec (d:Dm):EC d d.syncNames.1:=by
 unfold Dm.syncNames
 split
 · exact EC.refl d
 · exact begin_kept (P:=EC d) ⟨rfl,rfl⟩ (fun _=>⟨rfl,rfl⟩) ⟨rfl,rfl⟩ (fun x h=>h)
theorem syncP2_ec (s:Fs) (d:Dm):EC d (syncP2 s d).2.1:=by
 unfold syncP2
 split
 · split <;> exact syncNames_ec d
 · exact EC.refl d
theorem syncP_ec (s:Fs) (d:Dm):EC d (syncP s d).2.1:=by
 unfold syncP
 split
 · split
   · exact (sync_ec d tlN).trans (syncP2_ec _ _)
   · exact sync_ec d tlN
 · exact syncP2_ec _ _
theorem layP_ec (T:List (List UInt8)) (s:Fs) (d:Dm):EC d (layP T s d).2.1:=by
 unfold layP
 split
 · exact syncP_ec _ _
 · dsimp only
   split
   · exact (append_ec d tlN _).trans (syncP_ec _ _)
   · exact append_ec d tlN _
theorem cutP_ec (T:List (List UInt8)) (n:Int) (s:Fs) (d:Dm):EC d (cutP T n s d).2.1:=by
 unfold cutP
 split
 · split
   · exact (cut_ec d tlN _).trans (layP_ec _ _ _)
   · exact cut_ec d tlN _
 · exact layP_ec _ _ _
theorem flushP_ec (T:List (List UInt8)) (s:Fs) (d:Dm):EC d (flushP T s d).2.1:=by
 unfold flushP
 split
 · exact EC.refl d
 · split
   · exact EC.refl d
   · split
     · split
       · exact (create_ec d tlN).trans (cutP_ec _ _ _ _)
       · exact create_ec d tlN
     · exact cutP_ec _ _ _ _
section
variable {N : Nat} {d : Dm} {T : TT}
theorem p4_of (h:TD T.tls.flatten N d) (hF:T.L.length≤20000) (hN:N≤100000) (hpw:d.power=true) {i:Nat} (hi:lk d.names tlN=some i) (hn:(d.file i).now.length=T.held * 8207) (hh:T.held≤T.L.length / 256):P4 d T:=by
 have hT:T.tls.flatten.length≤1000000:=by rw [tls_flat];omega
 have hnow:(d.file i).now++(T.tls.drop T.held).flatten=T.tls.flatten:=by
  obtain ⟨t,ht⟩:=(h.file_at i).nowP
  have hs:T.tls.flatten=(T.tls.take T.held).flatten++(T.tls.drop T.held).flatten:=by rw [← List.flatten_append,List.take_append_drop]
  have hl:((T.tls.take T.held).flatten).length=T.held * 8207:=by
   rw [flatten_len _ 8207 fun x hx=>tls_each T x (List.mem_of_mem_take hx),List.length_take,tls_len,Nat.min_eq_left hh]
  rw [hs] at ht
  rw [hs,(List.append_inj ht (by rw [hn,hl])).1]
 have key:TD T.tls.flatten (N+1) (appD d T).1∧(T.held=T.L.length / 256∨lk (appD d T).1.names tlN=some i):=by
  unfold appD
  split
  · rename_i e
    exact ⟨h.mono (List.prefix_refl _) (Nat.le_succ _),.inl e⟩
  · rename_i e
    have h0:(T.tls.drop T.held).flatten ≠ []:=by
     intro e0
     have:=flatten_len (T.tls.drop T.held) 8207 fun x hx=>tls_each T x (List.mem_of_mem_drop hx)
     rw [e0,List.length_drop,tls_len] at this
     simp only [List.length_nil] at this;omega
    obtain ⟨h1,⟨h2,-⟩,-,-⟩:=h.append hT hpw hi (T.tls.drop T.held).flatten (by rw [hnow];exact List.prefix_refl _) h0
    rw [tls_drop T T.held hh] at h1 h2
    dsimp only
    split <;> exact ⟨h1,.inr (by rw [h2];exact hi)⟩
 refine ⟨h.pre hT (by omega),key.1.pre hT (by omega),?_⟩
 have hk:lk (appD d T).1.names tlN=some i:=by
  rcases key.2 with e | e
  · unfold appD;rw [if_pos e];exact hi
  · exact e
 by_cases hp2:(appD d T).1.power=true
 · exact (key.1.sync hT hp2 hk).1.pre hT (by omega)
 · have:((appD d T).1.sync tlN).1=(appD d T).1:=by
    unfold Dm.sync Dm.ask
    rw [if_pos (by simpa using hp2)]
   rw [this];exact key.1.pre hT (by omega)
theorem p3_of (h:FsI T.tls N T.fs d) (hF:T.L.length≤20000) (hN:N≤90000) (hpw:d.power=true) {i:Nat} (hi:lk d.names tlN=some i):P3 ((d.file i).now.length:Nat) d T:=by
 have hT:T.tls.flatten.length≤1000000:=by rw [tls_flat];omega
 have hle:T.held * 8207≤(d.file i).now.length:=h.named i hi
 have hh:T.held≤T.L.length / 256:=by have:=h.le;rwa [tls_len] at this
 refine ⟨h.td.pre hT (by omega),fun q=>p4_of h.td hF (by omega) hpw hi (by omega) hh,fun q e=>?_⟩
 obtain ⟨h1,⟨h2,-⟩,-,h4,-⟩:=h.td.cut hT hpw hi (T.held * 8207) hle
 obtain ⟨a,b,-⟩:=h4 e
 exact p4_of (T:={ T with l0:=true }) h1 hF (by omega) b (by rw [h2];exact hi) (by rw [a,List.length_take,Nat.min_eq_left hle]) hh
theorem p2_of (h:FsI T.tls N T.fs d) (hF:T.L.length≤20000) (hN:N≤80000) (hpw:d.power=true):P2 d T:=by
 have hT:T.tls.flatten.length≤1000000:=by rw [tls_flat];omega
 refine ⟨h.td.pre hT (by omega),fun q=>?_,fun q e=>?_⟩
 · rw [length_t hpw] at q ⊢
   cases hn:lk d.names tlN with
   | none=>rw [hn] at q;cases q
   | some i =>
     exact p3_of h hF (by omega) hpw hn
 · rw [length_t hpw] at q ⊢
   cases hn:lk d.names tlN with
   | some i=>rw [hn] at q;cases q
   | none =>
     obtain ⟨h1,h2,-⟩:=h.td.create hpw hn
     have e2:=h2 e
     obtain ⟨hm,hmn⟩:=h.td.made hn
     have hf:((Dm.madeT { d with acts:=d.acts+1 }).file d.fs.length)=⟨[],[],[]⟩:=by
      show (d.fs++[(⟨[],[],[]⟩:Fl)])[d.fs.length]?.getD _=_
      rw [List.getElem?_append_right (Nat.le_refl _),Nat.sub_self];rfl
     have hpw':(d.create tlN).1.power=true:=by rw [e2];exact hpw
     have hmn':lk (d.create tlN).1.names tlN=some d.fs.length:=by rw [e2];exact hmn
     have hh:T.held=0:=h.not_ hn
     have hk:FsI ({ T with l0:=true,l1:=true }:TT).tls (N+1) ({ T with l0:=true,l1:=true }:TT).fs (d.create tlN).1 :=
      ⟨h1,h.le,fun i hi=>by show T.held * 8207≤_;rw [hh];omega,fun _=>hh,(fun j hj hs=>(by cases hs)),fun hx=>by cases hx⟩
     have:=p3_of hk hF (by omega) hpw' hmn'
     rw [e2,hf] at this
     rw [e2]
     exact this
end
end
section
open Go.Maps Go.WideMaps Go.ChangeMaps
def Dm.big (d:Dm):Dm:={ d with space:=1099511627776 }
structure SD (TB:List UInt8) (N sp:Nat) (d:Dm):Prop where
 td:TD TB N d.big
 sp:d.space=(sp:Int)
 pw:d.power=true
 pl:d.plan=[]
section
variable {TB : List UInt8} {N M sp : Nat} {d : Dm}
theorem SD.new (TB:List UInt8) (sp:Nat):SD TB 0 sp (Dm.new sp):=⟨TD.new TB,rfl,rfl,rfl⟩
theorem SD.mono (h:SD TB N sp d) (hn:N≤M):SD TB M sp d:=⟨h.td.mono (List.prefix_refl _) hn,h.sp,h.pw,h.pl⟩
theorem SD.claimed (h:SD TB N sp d) (x:Nm):SD TB N sp (d.claim x):=⟨⟨rfl,h.td.st,h.td.fsl,h.td.files,h.td.used,h.td.acts,h.td.ep⟩,h.sp,h.pw,h.pl⟩
theorem pre_big (h:Pre d.big):Pre d:=⟨⟨h.refs.nm,h.refs.sf,h.refs.ch⟩,h.nn,h.ns,h.few,h.fewS,h.acts,h.epoch,h.fsl,h.chl,h.leg,h.fl⟩
theorem SD.pre (h:SD TB N sp d) (hT:TB.length≤1000000) (hN:N≤1000000):Pre d:=pre_big (h.td.pre hT hN)
theorem SD.create (h:SD TB N sp d) (hn:lk d.names tlN=none):d.create tlN=(Dm.madeT { d with acts:=d.acts+1 },0)∧SD TB (N+1) sp (Dm.madeT { d with acts:=d.acts+1 })∧lk (Dm.madeT { d with acts:=d.acts+1 }).names tlN=some d.fs.length∧(Dm.madeT { d with acts:=d.acts+1 }).file d.fs.length=⟨[],[],[]⟩:=by
 have e:d.create tlN=d.begin Dm.madeT (fun _ e=>e):=by
  unfold Dm.create
  dsimp only
  rw [ask_t h.pw,hn]
  dsimp only
  rw [if_neg (by decide),if_pos rfl]
  have:¬ 4096≤d.names.length:=by
   rcases h.td.at_ with ⟨-,x⟩ | ⟨i,-,-,x⟩
   · have x:d.names=[]:=x
     rw [x];decide
   · have x:d.names=[(tlN,i)]:=x
     rw [x];show ¬ 4096≤1;decide
  rw [if_neg this];rfl
 obtain ⟨h1,h2⟩:=h.td.made (d:=d.big) hn
 refine ⟨by rw [e,begin_calm h.pl],⟨h1,h.sp,h.pw,h.pl⟩,h2,?_⟩
 show (d.fs++[(⟨[],[],[]⟩:Fl)])[d.fs.length]?.getD _=_
 rw [List.getElem?_append_right (Nat.le_refl _),Nat.sub_self];rfl
def cutE (i c:Nat) (e:Dm):Dm:={ (e.setF i ⟨(e.file i).now.take c,(e.file i).safe,(e.file i).loose++[⟨[],c⟩]⟩) with used:=wrap64 (e.used - wrap64 (((e.file i).now.length:Int) - c)) }
theorem cut_is (hpw:d.power=true) (hpl:d.plan=[]) {i:Nat} (hi:lk d.names tlN=some i) (c:Nat) (hc:c≤(d.file i).now.length):d.cut tlN c=(cutE i c { d with acts:=d.acts+1 },0):=by
 have e:d.cut tlN c=d.begin (cutE i c) (fun _ e=>e):=by
  unfold Dm.cut
  rw [ask_t hpw,hi]
  dsimp only
  rw [if_neg (by omega)];rfl
 rw [e,begin_calm hpl]
theorem SD.cut (h:SD TB N sp d) (hT:TB.length≤1000000) {i:Nat} (hi:lk d.names tlN=some i) (c:Nat) (hc:c≤(d.file i).now.length):d.cut tlN c=(cutE i c { d with acts:=d.acts+1 },0)∧SD TB (N+1) sp (cutE i c { d with acts:=d.acts+1 })∧((cutE i c { d with acts:=d.acts+1 }).file i).now=(d.file i).now.take c:=by
 have e1:=cut_is h.pw h.pl hi c hc
 have e2:d.big.cut tlN c=(cutE i c { d.big with acts:=d.acts+1 },0):=cut_is (d:=d.big) h.pw h.pl hi c hc
 obtain ⟨h1,-,-,h4,-⟩:=h.td.cut hT h.pw hi c hc
 obtain ⟨q,-⟩:=h4 (by rw [e2])
 rw [e2] at h1 q
 exact ⟨e1,⟨h1,h.sp,h.pw,h.pl⟩,q⟩
theorem partOf_big (i:Nat) (p:List UInt8) (n:Int) (e:Dm):partOf i p n e.big=(partOf i p n e).big:=by
 unfold partOf
 dsimp only
 split <;> rfl
theorem partOf_calm (i:Nat) (p:List UInt8) (n:Int) (e:Dm):(partOf i p n e).plan=e.plan∧(partOf i p n e).power=e.power∧(partOf i p n e).space=e.space∧(partOf i p n e).names=e.names:=by
 unfold partOf
 dsimp only
 split <;> exact ⟨rfl,rfl,rfl,rfl⟩
theorem SD.append (h:SD TB N sp d) (hT:TB.length≤1000000) {i:Nat} (hi:lk d.names tlN=some i) (h0:(d.file i).now=[]) (p:List UInt8) (hp:p.take sp <+: TB) (hlt:sp < p.length) (hpl:p.length≤1000000) :
 d.append tlN p=(partOf i (p.take sp) sp { d with acts:=d.acts+1 },31)∧SD TB (N+1) sp (partOf i (p.take sp) sp { d with acts:=d.acts+1 })∧(partOf i (p.take sp) sp { d with acts:=d.acts+1 }).names=d.names:=by
 have hu:d.used=0:=by
  have:=(h.td.named (i:=i) hi).2.1
  have h0':(d.big.file i).now=[]:=h0
  rw [h0'] at this;exact this
 have hfit:p.take (max (wrap64 (d.space - d.used)) 0).toNat=p.take sp:=by
  rw [h.sp,hu,Int.sub_zero,wrap64_small (by omega) (by omega),show (max (sp:Int) 0).toNat=sp by omega]
 have hfl:(p.take sp).length=sp:=by rw [List.length_take];omega
 have e:d.append tlN p=(partOf i (p.take sp) sp { d with acts:=d.acts+1 },31):=by
  unfold Dm.append
  rw [ask_t h.pw,hi]
  dsimp only
  have hk:(d.planned d.acts).kind=0:=by unfold Dm.planned;rw [h.pl];rfl
  rw [if_neg (by rw [h0];simp only [List.length_nil];omega),hfit,hfl,begin_calm h.pl,if_pos ⟨hk,hlt⟩]
 obtain ⟨h1,-⟩:=h.td.laid hT (d:=d.big) (i:=i) hi (p.take sp) (by rw [show (d.big.file i).now=[] from h0,List.nil_append];exact hp) sp
 have hb:partOf i (p.take sp) sp { d.big with acts:=d.big.acts+1 }=(partOf i (p.take sp) sp { d with acts:=d.acts+1 }).big:=partOf_big i _ _ { d with acts:=d.acts+1 }
 rw [hb] at h1
 obtain ⟨q1,q2,q3,q4⟩:=partOf_calm i (p.take sp) sp { d with acts:=d.acts+1 }
 exact ⟨e,⟨h1,q3.trans h.sp,q2.trans h.pw,q1.trans h.pl⟩,q4⟩
theorem sync_is (hpw:d.power=true) (hpl:d.plan=[]) {i:Nat} (hi:lk d.names tlN=some i):d.sync tlN=(({ d with acts:=d.acts+1 }:Dm).setF i ⟨(d.file i).now,(d.file i).now,[]⟩,0):=by
 unfold Dm.sync
 rw [ask_t hpw,hi]
 dsimp only
 rw [begin_calm hpl];rfl
theorem SD.sync_pre (h:SD TB N sp d) (hT:TB.length≤1000000) (hN:N+1≤1000000) {i:Nat} (hi:lk d.names tlN=some i):Pre (d.sync tlN).1:=by
 have e2:d.big.sync tlN=(({ d.big with acts:=d.acts+1 }:Dm).setF i ⟨(d.file i).now,(d.file i).now,[]⟩,0):=sync_is (d:=d.big) h.pw h.pl hi
 have h1:=(h.td.sync hT h.pw hi).1
 rw [e2] at h1
 rw [sync_is h.pw h.pl hi]
 exact pre_big (h1.pre hT (by omega))
end
section
variable {N sp : Nat} {d : Dm} {T : TT}
theorem p4_small (h:SD (T.tls.flatten.take sp) N sp d) (hF:T.L.length≤20000) (hN:N≤100000) {i:Nat} (hi:lk d.names tlN=some i) (h0:(d.file i).now=[]) (hh:T.held=0) (hsp:sp < T.tls.flatten.length):P4 d T:=by
 have hT:T.tls.flatten.length≤1000000:=by rw [tls_flat];omega
 have hT2:(T.tls.flatten.take sp).length≤1000000:=by rw [List.length_take];omega
 have hd:=tls_drop T T.held (by rw [hh];exact Nat.zero_le _)
 rw [hh,List.drop_zero] at hd
 have key:SD (T.tls.flatten.take sp) (N+1) sp (appD d T).1∧lk (appD d T).1.names tlN=some i:=by
  unfold appD
  split
  · exact ⟨h.mono (Nat.le_succ _),hi⟩
  · obtain ⟨e,h1,h2⟩:=h.append hT2 hi h0 T.tls.flatten (List.prefix_refl _) hsp hT
    dsimp only
    rw [hh] at *
    rw [← hd,e]
    dsimp only
    split <;> exact ⟨h1,by rw [h2];exact hi⟩
 exact ⟨h.pre hT2 (by omega),key.1.pre hT2 (by omega),key.1.sync_pre hT2 (by omega) key.2⟩
theorem lay_small (h:SD (T.tls.flatten.take sp) N sp d) (hF:T.L.length≤20000) {i:Nat} (hi:lk d.names tlN=some i) (h0:(d.file i).now=[]) (s:Fs) (hs:s.held=0) (hne:T.tls ≠ []) (hsp:sp < T.tls.flatten.length) :
 ∃ d',layP T.tls s d=({ s with l0:=true },d',0)∧SD (T.tls.flatten.take sp) (N+1) sp d'∧lk d'.names tlN=some i:=by
 have hT:T.tls.flatten.length≤1000000:=by rw [tls_flat];omega
 have hT2:(T.tls.flatten.take sp).length≤1000000:=by rw [List.length_take];omega
 obtain ⟨e,h1,h2⟩:=h.append hT2 hi h0 T.tls.flatten (List.prefix_refl _) hsp hT
 refine ⟨_,?_,h1,by rw [h2];exact hi⟩
 unfold layP
 rw [hs,List.drop_zero,if_neg (by intro q;exact hne (List.length_eq_zero_iff.1 q.symm))]
 dsimp only
 rw [e,if_neg (show ¬ (31:Int)=0 by decide)]
 obtain ⟨a,b,c⟩:=s
 cases hs
 rfl
theorem SD.flush (h:SD (T.tls.flatten.take sp) N sp d) (hF:T.L.length≤20000) (hN:N≤80000) (hh:T.held=0) (hne:T.tls ≠ []) (hsp:sp < T.tls.flatten.length) :
 P2 d T∧∃ s' d',flushP T.tls T.fs d=(s',d',0)∧s'.held=0∧SD (T.tls.flatten.take sp) (N+3) sp d':=by
 have hT:T.tls.flatten.length≤1000000:=by rw [tls_flat];omega
 have hT2:(T.tls.flatten.take sp).length≤1000000:=by rw [List.length_take];omega
 have h8:((T.held * 8207:Nat):Int)=0:=by rw [hh];rfl
 have hf0:T.fs.held=0:=hh
 cases hn:lk d.names tlN with
 | none =>
   obtain ⟨e,h1,h2,h3⟩:=h.create hn
   have h3':=congrArg Fl.now h3
   refine ⟨⟨h.pre hT2 (by omega),fun q=>?_,fun q _=>?_⟩,?_⟩
   · rw [length_t h.pw,hn] at q;cases q
   · rw [length_t h.pw,hn,e]
     dsimp only
     have hp4:P4 (Dm.madeT { d with acts:=d.acts+1 }) ({ T with l0:=true,l1:=true }:TT):=p4_small (T:={ T with l0:=true,l1:=true }) h1 hF (by omega) h2 h3' hh hsp
     exact ⟨h1.pre hT2 (by omega),fun _=>hp4,fun q=>by
      have q:(0:Int) > ((T.held * 8207:Nat):Int):=q
      rw [h8] at q;exact absurd q (by decide)⟩
   · obtain ⟨d',f1,f2,f3⟩:=lay_small h1 hF h2 h3' ⟨T.fs.held,true,true⟩ hf0 hne hsp
     refine ⟨⟨T.fs.held,true,true⟩,d',?_,hf0,f2.mono (by omega)⟩
     · unfold flushP
       rw [length_t h.pw,hn]
       dsimp only
       rw [if_neg (by rintro ⟨-,q⟩;exact hne q),if_neg (by rintro ⟨-,q⟩;exact q rfl),if_pos rfl,e]
       dsimp only
       rw [if_pos rfl]
       unfold cutP
       rw [if_neg (by show ¬ ((T.fs.held * 8207:Nat):Int) < 0;rw [hf0];decide)]
       exact f1
 | some i =>
   have hlay:∀ (s:Fs),s.held=0→∀ d1,SD (T.tls.flatten.take sp) (N+1) sp d1→lk d1.names tlN=some i→(d1.file i).now=[]→∃ d',layP T.tls s d1=({ s with l0:=true },d',0)∧SD (T.tls.flatten.take sp) (N+3) sp d':=fun s hs d1 h1 hi h0=>by
    obtain ⟨d',f1,f2,f3⟩:=lay_small h1 hF hi h0 s hs hne hsp
    exact ⟨d',f1,f2.mono (by omega)⟩
   by_cases h0:(d.file i).now=[]
   · refine ⟨⟨h.pre hT2 (by omega),fun q=>?_,fun q=>?_⟩,?_⟩
     · rw [length_t h.pw,hn]
       dsimp only
       rw [h0]
       refine ⟨h.pre hT2 (by omega),fun _=>p4_small h hF (by omega) hn h0 hh hsp,fun q=>?_⟩
       rw [h8] at q;exact absurd q (by decide)
     · rw [length_t h.pw,hn] at q;cases q
     · obtain ⟨d',f1,f2⟩:=hlay T.fs hf0 d (h.mono (Nat.le_succ _)) hn h0
       refine ⟨{ T.fs with l0:=true },d',?_,hf0,f2⟩
       · unfold flushP
         rw [length_t h.pw,hn]
         dsimp only
         rw [if_neg (by rintro ⟨q,-⟩;cases q),if_neg (by rintro ⟨q,-⟩;exact q rfl),if_neg (by decide)]
         unfold cutP
         rw [if_neg (by rw [hf0,h0];decide)]
         exact f1
   · obtain ⟨e,h1,h2⟩:=h.cut hT2 hn 0 (Nat.zero_le _)
     have h2':((cutE i 0 { d with acts:=d.acts+1 }).file i).now=[]:=by rw [h2,List.take_zero]
     have hpos:0 < (d.file i).now.length:=by
      cases hx:(d.file i).now with
      | nil=>exact absurd hx h0
      | cons a r=>simp
     refine ⟨⟨h.pre hT2 (by omega),fun q=>?_,fun q=>?_⟩,?_⟩
     · rw [length_t h.pw,hn]
       dsimp only
       refine ⟨h.pre hT2 (by omega),fun q=>?_,fun q _=>?_⟩
       · rw [h8] at q;exact absurd (by omega) q
       · have e':d.cut tlN ((T.held * 8207:Nat):Int)=(cutE i 0 { d with acts:=d.acts+1 },0):=by rw [h8];exact e
         rw [e']
         exact p4_small (T:={ T with l0:=true }) h1 hF (by omega) hn h2' hh hsp
     · rw [length_t h.pw,hn] at q;cases q
     · obtain ⟨d',f1,f2⟩:=hlay { T.fs with l0:=true } hf0 _ h1 hn h2'
       refine ⟨{ T.fs with l0:=true },d',?_,hf0,f2⟩
       · unfold flushP
         rw [length_t h.pw,hn]
         dsimp only
         rw [if_neg (by rintro ⟨q,-⟩;cases q),if_neg (by rintro ⟨q,-⟩;exact q rfl),if_neg (by decide)]
         unfold cutP
         have e':d.cut tlN ((T.fs.held * 8207:Nat):Int)=(cutE i 0 { d with acts:=d.acts+1 },0):=by rw [hf0];exact e
         rw [if_pos (by rw [hf0];simp only [Nat.zero_mul];omega),e']
         dsimp only
         rw [if_pos rfl]
         exact f1
end
end
section
open Go.Maps Go.WideMaps Go.ChangeMaps
set_option maxHeartbeats 4000000
theorem raw_any (w0 w:World) (hw:Below w0.heap.size w0 w) (gw:Nat) (l:List UInt8) (h:Wr w w0.heap.size gw l) (a:Option Addr) (n c:Nat) (ps:List (List UInt8)) (hp:PartsAt w0 a n ps) (hn:n≤1000) (hl:l.length+ps.flatten.length≤1000000000000) :
 Calls Tryz.prog 258 #[.pointer (some ⟨gw,0,none⟩),.slice a n c] w fun e w'=>e=.returned (.tuple #[])∧Wr w' w0.heap.size gw (l++ps.flatten)∧Below w0.heap.size w0 w':=by
 have HP:=hid hp
 have HNL:=hid hp.1
 have HW:=hid hw
 have HL:=hid hl
 clear hp hw hl
 go_enter Tryz.func258,Tryz.ntmps258
 go_wp2_with fail
 go_loopw [8,5] (fun v _ wr=>∃ k:Nat,k≤n∧v=.int .i64 k∧Wr wr w0.heap.size gw (l++(ps.take k).flatten)∧Below w0.heap.size w0 wr) (fun v _ _=>n - (intOf v).toNat)
 case atStart=>exact ⟨0,by omega,rfl,by simpa using h,HW.out⟩
 case round =>
  clear h
  obtain ⟨k,hkn,rfl,hh,hb⟩:=hrel
  by_cases hlt:k < n
  · obtain ⟨p,hpk⟩:∃ p,ps[k]?=some p:=⟨_,List.getElem?_eq_getElem (by rw [HNL.out];exact hlt)⟩
    obtain ⟨b,off,ai,ni,ci,rfl,hc,hr⟩:=HP.out.2 k p hpk
    have hbl:b < w0.heap.size:=World.block_lt_of_cell? w0 _ hc
    have hc2:wr.cell? ⟨b,off+k,none⟩=some (.slice ai ni ci):=(hb.cell (show b < w0.heap.size from hbl)).trans hc
    have hr2:R8 wr ai ni ci p:=hr.belowB (Nat.le_refl _) hb
    obtain ⟨hgw,v,hwh,hwo⟩:=hh
    obtain ⟨M,hM⟩:∃ M,M=l++(ps.take k).flatten:=⟨_,rfl⟩
    rw [← hM] at hwo
    have hfl:=flat_take hpk
    have hle:=flat_le (ps:=ps) (k+1)
    have hni:p.length=ni:=hr2.1
    have hMl:M.length+ni≤1000000000000:=by
     rw [hfl,List.length_append] at hle
     rw [hM,List.length_append];have:=HL.out;omega
    have hlt2:gw < wr.heap.size:=(Array.getElem?_eq_some_iff.1 hwh).1
    have hne:=own_neW hwo hwh (by decide)
    have hcg:wr.cell? ⟨gw,0,none⟩=some v:=by rw [cell_of_row _ _ _ _ _ _ hwh];rfl
    have hf:=frozen_of_row wr gw 0 _ _ hwh
    have HFL:=hid (show l++(ps.take (k+1)).flatten=M++p by rw [hfl,hM,List.append_assoc])
    have HR2:=hid hr2;have HWO:=hid hwo;have HWH:=hid hwh;have HB:=hid hb
    have HZ:=hid hb.size
    have HLT:=hid hlt;have HML:=hid hMl;have HGW:=hid hgw;have HLT2:=hid hlt2;have HNI:=hid hni
    have h9:decide ((k:Int) < (n:Int))=true:=by simp;omega
    have h8:decide (k < n)=true:=by simp;omega
    have hk9:k≤1000:=by omega
    clear hkn hlt hpk hc hr hbl hr2 hwh hwo hM hfl hle hni hMl hgw hb hn
    go_wp2_with (first
     | (at_builtin;refine L_append8 rfl (.tmp 16) (.tmp 17) 53 (by rfl) sl22 w0.heap.size v _ _ (by rfl) HWO.out ai ni ci p (by rfl) HR2.out (by have:=HML.out;omega) (by have:=HML.out;simp [maxLen];omega) HZ.out (fun a3 c3 w3 ho3 hg3 hat3=>?_)
        have HO3:=hid ho3;have HG3:=hid hg3
        have hc3:=(hg3.cell_far ⟨gw,0,none⟩ hlt2 hne).trans hcg
        have hf3:=(hg3.frozen_far ⟨gw,0,none⟩ hlt2 hne).trans hf
        clear ho3 hg3 hat3))
    have hg3:=HG3.out;have ho3:=HO3.out
    have hh3:w3.heap[gw]?=some (.cells #[v] 308 (0,0)):=(hg3.block gw hlt2 hne).trans HWH.out
    have hne3:=own_neW ho3 hh3 (by decide)
    have hh4:=heap_setCell_same w3 gw 0 _ _ (.slice a3 (M.length+ni) c3) hh3
    have hgs:w3.grownBy (w3.setCell ⟨gw,0,none⟩ (.slice a3 (M.length+ni) c3)) (some gw):=grown_set (grown_refl w3 (some gw)) 0 0 _
    have ho4:=ho3.kept hgs (.inr (fun e=>hne3 e.symm))
    have hb4:Below w0.heap.size w0 (w3.setCell ⟨gw,0,none⟩ (.slice a3 (M.length+ni) c3)):=(HB.out.grown hg3 HZ.out (fun k hk=>(HWO.out.lt k hk).1)).setCell HGW.out _
    refine ⟨⟨k+1,HLT.out,by push_cast;rfl,⟨HGW.out,_,hh4,?_⟩,hb4⟩,?_⟩
    · rw [HFL.out,List.map_append]
      simpa [HNI.out] using ho4
    · have:=HLT.out
      simp [intOf];omega
  · obtain rfl:k=n:=by omega
    have htk:ps.take k=ps:=List.take_of_length_le (by rw [HNL.out];exact Nat.le_refl _)
    rw [htk] at hh
    have h9:decide ((k:Int) < (k:Int))=false:=by simp
    have h8:decide (k < k)=false:=by simp
    clear hlt hkn htk
    have HH:=hid hh
    clear hh
    go_wp2_with fail
    go_end0
    exact ⟨rfl,HH.out,hb⟩
theorem be_one (c:UInt8):be 1 c.toNat=[c]:=by
 unfold be
 simp
theorem text_any (w:World) (dm:UInt8) (a:Option Addr) (n c:Nat) (ps:List (List UInt8)) (hp:PartsAt w a n ps) (hn:n≤1000) (hl:ps.flatten.length≤1000000000) :
 Calls Tryz.prog 237 #[.int .i64 (dm.toNat:Int),.slice a n c] w fun e w'=>∃ a' n' c',e=.returned (.slice a' n' c')∧w'.ownsRow w.heap.size 5 1 (.slice a' n' c') n' ((dm :: ps.flatten).map b8)∧Below w.heap.size w w':=by
 have HP:=hid hp
 have HL:=hid hl
 have hdw:IntKind.u8.wrap (dm.toNat:Int)=(dm.toNat:Int):=IntWalk.u8_in _ (by have:=dm.toNat_lt;omega)
 clear hp hl
 go_enter Tryz.func237,Tryz.ntmps237
 go_wp2_with (first
  | (go_at_call 157;refine (new_any w).mono ?_;rintro e w1 ⟨gw,rfl,hwr,hb1⟩;have HB1:=hid hb1;have HW1:=hid hwr;clear hb1 hwr)
  | (go_at_call 158;refine (put8_any w1 w.heap.size gw [] dm HW1.out (by decide) HB1.out.size).mono ?_;rintro e w2 ⟨rfl,hwr,hb2⟩;have HW2:=hid (show Wr w2 w.heap.size gw [dm] by rw [← be_one dm];exact hwr);have HB2:=hid (HB1.out.trans hb2);clear hb2 hwr)
  | (go_at_call 258;refine (raw_any w w2 HB2.out gw [dm] HW2.out a n c ps HP.out hn (by have:=HL.out;show 1+_≤_;omega)).mono ?_;rintro e w3 ⟨rfl,hwr,hb3⟩;have HW3:=hid hwr;have HB3:=hid hb3;clear hb3 hwr)
  | (go_at_call 163;refine (all_any w3 w.heap.size gw _ HW3.out (by have:=HL.out;rw [List.length_append];show 1+_≤_;omega)).mono ?_;rintro e w4 ⟨a',n',c',rfl,ho,hb4⟩;have HO:=hid ho;have HB4:=hid hb4;clear ho hb4))
 go_ret
 exact ⟨_,_,_,rfl,owns_mono HO.out HB3.out.size,HB3.out.trans (HB4.out.mono HB3.out.size)⟩
end
end Go.Proofs.YtgkehahklccacaaGreatDoor
