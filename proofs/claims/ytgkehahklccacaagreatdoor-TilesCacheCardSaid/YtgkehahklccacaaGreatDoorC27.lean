import Derived.Test.YtgkehahklccacaaGreatDoorC26
import Derived.Test.YtgkehahklccacaaGreatDoorC09
import Derived.Test.YtgkehahklccacaaGreatDoorC03
import Derived.Test.YtgkehahklccacaaGreatDoorC10
namespace Go.Proofs.YtgkehahklccacaaGreatDoor
open Go Go.RowKit
open Go.Lib (hid)
set_option maxRecDepth 100000
set_option maxHeartbeats 1000000
set_option linter.unusedVariables false
set_option linter.unusedSimpArgs false
section
open Go.Maps Go.WideMaps Go.ChangeMaps
def TT.fs (T:TT):Fs:=⟨T.held,T.l0,T.l1⟩
def TT.put (T:TT) (s:Fs):TT:={ T with held:=s.held,l0:=s.l0,l1:=s.l1 }
def TT.tls (T:TT):List (List UInt8):=(List.range (T.L.length / 256)).map fun j=>tileP T.wd.toNat j (chunk T.L j)
def toD (T:TT) (r:Fs × Dm × Int):Dm × TT × Int:=(r.2.1,T.put r.1,r.2.2)
theorem tls_len (T:TT):T.tls.length=T.L.length / 256:=by simp [TT.tls]
theorem tls_each (T:TT):∀ x ∈ T.tls,x.length=8207:=by
 intro x hx
 obtain ⟨j,hj,rfl⟩:=List.mem_map.1 hx
 have hj:=List.mem_range.1 hj
 rw [tileP_len]
 have:(chunk T.L j).length=256:=by unfold chunk;rw [List.length_take,List.length_drop];omega
 omega
theorem tls_flat (T:TT):T.tls.flatten.length=T.L.length / 256 * 8207:=by rw [flatten_len _ 8207 (tls_each T),tls_len]
theorem tls_drop (T:TT) (m:Nat) (hm:m≤T.L.length / 256):(T.tls.drop m).flatten=tilesB T m (T.L.length / 256 - m):=by
 unfold TT.tls tilesB
 congr 1
 apply List.ext_getElem?
 intro i
 rw [List.getElem?_drop,List.getElem?_map,List.getElem?_map]
 by_cases h:i < T.L.length / 256 - m
 · rw [List.getElem?_range h,List.getElem?_range (by omega)];rfl
 · rw [List.getElem?_eq_none (by simp;omega),List.getElem?_eq_none (by simp;omega)];rfl
theorem sync2_eq (d:Dm) (T:TT):syncD2 d T=toD T (syncP2 T.fs d):=by
 unfold syncD2 syncP2 toD
 by_cases h:T.l1=true
 · have h':T.fs.l1=true:=h
   rw [if_pos h,if_pos h']
   by_cases h2:d.syncNames.2=0
   · rw [if_neg (by rw [h2];decide),if_pos h2];rfl
   · rw [if_pos h2,if_neg h2];rfl
 · have h':¬ T.fs.l1=true:=h
   rw [if_neg h,if_neg h']
   have:({ T with l1:=false }:TT)=T:=by cases T;simp_all
   rw [if_neg (fun q=>q rfl),this];rfl
theorem sync_eq (d:Dm) (T:TT):syncD d T=toD T (syncP T.fs d):=by
 rw [syncD_eq]
 unfold syncP
 by_cases h:T.l0=true
 · have h':T.fs.l0=true:=h
   rw [if_pos h,if_pos h']
   by_cases h2:(d.sync tlN).2=0
   · rw [if_neg (fun q=>q h2),if_pos h2,sync2_eq];rfl
   · rw [if_pos h2,if_neg h2];rfl
 · have h':¬ T.fs.l0=true:=h
   rw [if_neg h,if_neg h']
   have:({ T with l0:=false }:TT)=T:=by cases T;simp_all
   rw [this,sync2_eq]
theorem lay_eq (d:Dm) (T:TT) (hh:T.held≤T.L.length / 256):fl4 d T=toD T (layP T.tls T.fs d):=by
 unfold fl4 appD layP
 rw [tls_len]
 by_cases h:T.held=T.L.length / 256
 · have h':T.fs.held=T.L.length / 256:=h
   rw [if_pos h,if_pos h',if_neg (fun q=>q rfl),sync_eq]
 · have h':¬ T.fs.held=T.L.length / 256:=h
   rw [if_neg h,if_neg h']
   have hd:(T.tls.drop T.fs.held).flatten=tilesB T T.held (T.L.length / 256 - T.held):=tls_drop T T.held hh
   dsimp only
   rw [hd]
   by_cases h2:(d.append tlN (tilesB T T.held (T.L.length / 256 - T.held))).2=0
   · rw [if_pos h2,if_neg (c:=(d.append tlN (tilesB T T.held (T.L.length / 256 - T.held))).2 ≠ 0) (fun q=>q h2)]
     rw [if_neg (fun q=>q rfl),sync_eq];rfl
   · rw [if_neg h2,if_pos (c:=(d.append tlN (tilesB T T.held (T.L.length / 256 - T.held))).2 ≠ 0) h2]
     rw [if_pos h2];rfl
theorem cut_eq (N:Int) (d:Dm) (T:TT) (hh:T.held≤T.L.length / 256):fl3 N d T=toD T (cutP T.tls N T.fs d):=by
 unfold fl3 cutP
 by_cases h:N > ((T.held * 8207:Nat):Int)
 · have h':((T.fs.held * 8207:Nat):Int) < N:=h
   rw [if_pos h,if_pos h']
   dsimp only
   by_cases h2:(d.cut tlN ((T.held * 8207:Nat):Int)).2=0
   · have h2':(d.cut tlN ((T.fs.held * 8207:Nat):Int)).2=0:=h2
     rw [if_neg (fun q=>q h2),if_pos h2',lay_eq _ { T with l0:=true } hh];rfl
   · have h2':¬ (d.cut tlN ((T.fs.held * 8207:Nat):Int)).2=0:=h2
     rw [if_pos h2,if_neg h2'];rfl
 · have h':¬ ((T.fs.held * 8207:Nat):Int) < N:=h
   rw [if_neg h,if_neg h',lay_eq _ _ hh]
theorem flush_eq (d:Dm) (T:TT) (hh:T.held≤T.L.length / 256) (hl:T.live d tlN=0):flushD d T=toD T (flushP T.tls T.fs d):=by
 unfold flushD flushP
 rw [if_neg (fun q=>q hl)]
 have he:T.tls=[] ↔ T.L.length / 256=0:=by rw [← tls_len];exact List.length_eq_zero_iff.symm
 by_cases h1:(d.length tlN).2=32
 · by_cases h2:T.L.length / 256=0
   · rw [if_pos h1,if_pos h2,if_pos ⟨h1,he.2 h2⟩];rfl
   · rw [if_neg (c:=(d.length tlN).2=32∧T.tls=[]) (fun q=>h2 (he.1 q.2)),if_neg (c:=(d.length tlN).2 ≠ 0∧(d.length tlN).2 ≠ 32) (fun q=>q.2 h1)]
     rw [if_pos h1,if_pos h1,if_neg h2]
     unfold fl2
     rw [if_pos rfl]
     dsimp only
     by_cases h3:(d.create tlN).2=0
     · rw [if_neg (fun q=>q h3),if_pos h3,cut_eq _ _ { T with l0:=true,l1:=true } hh];rfl
     · rw [if_pos h3,if_neg h3];rfl
 · by_cases h2:(d.length tlN).2=0
   · rw [if_neg (c:=(d.length tlN).2=32∧T.tls=[]) (fun q=>h1 q.1),if_neg (c:=(d.length tlN).2 ≠ 0∧(d.length tlN).2 ≠ 32) (fun q=>q.1 h2)]
     rw [if_neg h1,if_neg h1,if_neg (fun q=>q h2)]
     unfold fl2
     rw [if_neg (by decide),cut_eq _ _ _ hh]
   · rw [if_neg (c:=(d.length tlN).2=32∧T.tls=[]) (fun q=>h1 q.1),if_pos (c:=(d.length tlN).2 ≠ 0∧(d.length tlN).2 ≠ 32) ⟨h2,h1⟩]
     rw [if_neg h1,if_pos h2];rfl
end
section
open Go.Maps Go.WideMaps Go.ChangeMaps
def EC (d x:Dm):Prop:=x.epoch=d.epoch∧x.claims=d.claims
theorem EC.refl (d:Dm):EC d d:=⟨rfl,rfl⟩
theorem EC.trans {a b c:Dm} (h:EC a b) (k:EC b c):EC a c:=⟨k.1.trans h.1,k.2.trans h.2⟩
theorem create_ec (d:Dm) (s:Nm):EC d (d.create s).1:=by
 unfold Dm.create
 dsimp only
 split
 · exact EC.refl d
 · split
   · split
     · exact EC.refl d
     · exact begin_kept (P:=EC d) ⟨rfl,rfl⟩ (fun _=>⟨rfl,rfl⟩) ⟨rfl,rfl⟩ (fun x h=>h)
   · exact EC.refl d
theorem partOf_ec (i:Nat) (fit:List UInt8) (n:Int) (e:Dm):EC e (partOf i fit n e):=by
 unfold partOf
 dsimp only
 split
 · exact EC.refl e
 · exact ⟨rfl,rfl⟩
theorem append_ec (d:Dm) (s:Nm) (p:List UInt8):EC d (d.append s p).1:=by
 unfold Dm.append
 split
 · split
   · exact EC.refl d
   · dsimp only
     split <;> exact begin_kept (P:=EC d) (partOf_ec _ _ _ _) (fun _=>partOf_ec _ _ _ _) ⟨rfl,rfl⟩ (fun x h=>h)
 · exact EC.refl d
theorem cut_ec (d:Dm) (s:Nm) (n:Int):EC d (d.cut s n).1:=by
 unfold Dm.cut
 split
 · split
   · exact EC.refl d
   · exact begin_kept (P:=EC d) ⟨rfl,rfl⟩ (fun _=>⟨rfl,rfl⟩) ⟨rfl,rfl⟩ (fun x h=>h)
 · exact EC.refl d
theorem sync_ec (d:Dm) (s:Nm):EC d (d.sync s).1:=by
 unfold Dm.sync
 split
 · exact begin_kept (P:=EC d) ⟨rfl,rfl⟩ (fun _=>⟨rfl,rfl⟩) ⟨rfl,rfl⟩ (fun x h=>h)
 · exact EC.refl d
theorem syncNames_ec (d:Dm):EC d d.syncNames.1:=by
 unfold Dm.syncNames
 split
 · exact EC.refl d
 · exact begin_kept (P:=EC d) ⟨rfl,rfl⟩ (fun _=>⟨rfl,rfl⟩) ⟨rfl,rfl⟩ (fun x h=>h)
theorem syncP2_ec (s:Fs) (d:Dm):EC d (syncP2 s d).2.1:=by
 unfold syncP2
 split
 · split <;> exact syncNames_ec d
 · exact EC.refl d
theorem syncP_ec (s:Fs) (d:Dm):EC d (syncP s d).2.1:=by
 unfold syncP
 split
 · split
   · exact (sync_ec d tlN).trans (syncP2_ec _ _)
   · exact sync_ec d tlN
 · exact syncP2_ec _ _
theorem layP_ec (T:List (List UInt8)) (s:Fs) (d:Dm):EC d (layP T s d).2.1:=by
 unfold layP
 split
 · exact syncP_ec _ _
 · dsimp only
   split
   · exact (append_ec d tlN _).trans (syncP_ec _ _)
   · exact append_ec d tlN _
theorem cutP_ec (T:List (List UInt8)) (n:Int) (s:Fs) (d:Dm):EC d (cutP T n s d).2.1:=by
 unfold cutP
 split
 · split
   · exact (cut_ec d tlN _).trans (layP_ec _ _ _)
   · exact cut_ec d tlN _
 · exact layP_ec _ _ _
theorem flushP_ec (T:List (List UInt8)) (s:Fs) (d:Dm):EC d (flushP T s d).2.1:=by
 unfold flushP
 split
 · exact EC.refl d
 · split
   · exact EC.refl d
   · split
     · split
       · exact (create_ec d tlN).trans (cutP_ec _ _ _ _)
       · exact create_ec d tlN
     · exact cutP_ec _ _ _ _
section
variable {N : Nat} {d : Dm} {T : TT}
end
end
section
open Go.Maps Go.WideMaps Go.ChangeMaps
def Dm.big (d:Dm):Dm:={ d with space:=1099511627776 }
structure SD (TB:List UInt8) (N sp:Nat) (d:Dm):Prop where
 td:TD TB N d.big
 sp:d.space=(sp:Int)
 pw:d.power=true
 pl:d.plan=[]
section
variable {TB : List UInt8} {N M sp : Nat} {d : Dm}
theorem SD.new (TB:List UInt8) (sp:Nat):SD TB 0 sp (Dm.new sp):=⟨TD.new TB,rfl,rfl,rfl⟩
theorem SD.mono (h:SD TB N sp d) (hn:N≤M):SD TB M sp d:=⟨h.td.mono (List.prefix_refl _) hn,h.sp,h.pw,h.pl⟩
theorem SD.claimed (h:SD TB N sp d) (x:Nm):SD TB N sp (d.claim x):=⟨⟨rfl,h.td.st,h.td.fsl,h.td.files,h.td.used,h.td.acts,h.td.ep⟩,h.sp,h.pw,h.pl⟩
theorem pre_big (h:Pre d.big):Pre d:=⟨⟨h.refs.nm,h.refs.sf,h.refs.ch⟩,h.nn,h.ns,h.few,h.fewS,h.acts,h.epoch,h.fsl,h.chl,h.leg,h.fl⟩
theorem SD.pre (h:SD TB N sp d) (hT:TB.length≤1000000) (hN:N≤1000000):Pre d:=pre_big (h.td.pre hT hN)
theorem SD.create (h:SD TB N sp d) (hn:lk d.names tlN=none):d.create tlN=(Dm.madeT { d with acts:=d.acts+1 },0)∧SD TB (N+1) sp (Dm.madeT { d with acts:=d.acts+1 })∧lk (Dm.madeT { d with acts:=d.acts+1 }).names tlN=some d.fs.length∧(Dm.madeT { d with acts:=d.acts+1 }).file d.fs.length=⟨[],[],[]⟩:=by
 have e:d.create tlN=d.begin Dm.madeT (fun _ e=>e):=by
  unfold Dm.create
  dsimp only
  rw [ask_t h.pw,hn]
  dsimp only
  rw [if_neg (by decide),if_pos rfl]
  have:¬ 4096≤d.names.length:=by
   rcases h.td.at_ with ⟨-,x⟩ | ⟨i,-,-,x⟩
   · have x:d.names=[]:=x
     rw [x];decide
   · have x:d.names=[(tlN,i)]:=x
     rw [x];show ¬ 4096≤1;decide
  rw [if_neg this];rfl
 obtain ⟨h1,h2⟩:=h.td.made (d:=d.big) hn
 refine ⟨by rw [e,begin_calm h.pl],⟨h1,h.sp,h.pw,h.pl⟩,h2,?_⟩
 show (d.fs++[(⟨[],[],[]⟩:Fl)])[d.fs.length]?.getD _=_
 rw [List.getElem?_append_right (Nat.le_refl _),Nat.sub_self];rfl
def cutE (i c:Nat) (e:Dm):Dm:={ (e.setF i ⟨(e.file i).now.take c,(e.file i).safe,(e.file i).loose++[⟨[],c⟩]⟩) with used:=wrap64 (e.used - wrap64 (((e.file i).now.length:Int) - c)) }
theorem cut_is (hpw:d.power=true) (hpl:d.plan=[]) {i:Nat} (hi:lk d.names tlN=some i) (c:Nat) (hc:c≤(d.file i).now.length):d.cut tlN c=(cutE i c { d with acts:=d.acts+1 },0):=by
 have e:d.cut tlN c=d.begin (cutE i c) (fun _ e=>e):=by
  unfold Dm.cut
  rw [ask_t hpw,hi]
  dsimp only
  rw [if_neg (by omega)];rfl
 rw [e,begin_calm hpl]
theorem SD.cut (h:SD TB N sp d) (hT:TB.length≤1000000) {i:Nat} (hi:lk d.names tlN=some i) (c:Nat) (hc:c≤(d.file i).now.length):d.cut tlN c=(cutE i c { d with acts:=d.acts+1 },0)∧SD TB (N+1) sp (cutE i c { d with acts:=d.acts+1 })∧((cutE i c { d with acts:=d.acts+1 }).file i).now=(d.file i).now.take c:=by
 have e1:=cut_is h.pw h.pl hi c hc
 have e2:d.big.cut tlN c=(cutE i c { d.big with acts:=d.acts+1 },0):=cut_is (d:=d.big) h.pw h.pl hi c hc
 obtain ⟨h1,-,-,h4,-⟩:=h.td.cut hT h.pw hi c hc
 obtain ⟨q,-⟩:=h4 (by rw [e2])
 rw [e2] at h1 q
 exact ⟨e1,⟨h1,h.sp,h.pw,h.pl⟩,q⟩
theorem partOf_big (i:Nat) (p:List UInt8) (n:Int) (e:Dm):partOf i p n e.big=(partOf i p n e).big:=by
 unfold partOf
 dsimp only
 split <;> rfl
theorem partOf_calm (i:Nat) (p:List UInt8) (n:Int) (e:Dm):(partOf i p n e).plan=e.plan∧(partOf i p n e).power=e.power∧(partOf i p n e).space=e.space∧(partOf i p n e).names=e.names:=by
 unfold partOf
 dsimp only
 split <;> exact ⟨rfl,rfl,rfl,rfl⟩
theorem SD.append (h:SD TB N sp d) (hT:TB.length≤1000000) {i:Nat} (hi:lk d.names tlN=some i) (h0:(d.file i).now=[]) (p:List UInt8) (hp:p.take sp <+: TB) (hlt:sp < p.length) (hpl:p.length≤1000000) :
 d.append tlN p=(partOf i (p.take sp) sp { d with acts:=d.acts+1 },31)∧SD TB (N+1) sp (partOf i (p.take sp) sp { d with acts:=d.acts+1 })∧(partOf i (p.take sp) sp { d with acts:=d.acts+1 }).names=d.names:=by
 have hu:d.used=0:=by
  have:=(h.td.named (i:=i) hi).2.1
  have h0':(d.big.file i).now=[]:=h0
  rw [h0'] at this;exact this
 have hfit:p.take (max (wrap64 (d.space - d.used)) 0).toNat=p.take sp:=by
  rw [h.sp,hu,Int.sub_zero,wrap64_small (by omega) (by omega),show (max (sp:Int) 0).toNat=sp by omega]
 have hfl:(p.take sp).length=sp:=by rw [List.length_take];omega
 have e:d.append tlN p=(partOf i (p.take sp) sp { d with acts:=d.acts+1 },31):=by
  unfold Dm.append
  rw [ask_t h.pw,hi]
  dsimp only
  have hk:(d.planned d.acts).kind=0:=by unfold Dm.planned;rw [h.pl];rfl
  rw [if_neg (by rw [h0];simp only [List.length_nil];omega),hfit,hfl,begin_calm h.pl,if_pos ⟨hk,hlt⟩]
 obtain ⟨h1,-⟩:=h.td.laid hT (d:=d.big) (i:=i) hi (p.take sp) (by rw [show (d.big.file i).now=[] from h0,List.nil_append];exact hp) sp
 have hb:partOf i (p.take sp) sp { d.big with acts:=d.big.acts+1 }=(partOf i (p.take sp) sp { d with acts:=d.acts+1 }).big:=partOf_big i _ _ { d with acts:=d.acts+1 }
 rw [hb] at h1
 obtain ⟨q1,q2,q3,q4⟩:=partOf_calm i (p.take sp) sp { d with acts:=d.acts+1 }
 exact ⟨e,⟨h1,q3.trans h.sp,q2.trans h.pw,q1.trans h.pl⟩,q4⟩
theorem sync_is (hpw:d.power=true) (hpl:d.plan=[]) {i:Nat} (hi:lk d.names tlN=some i):d.sync tlN=(({ d with acts:=d.acts+1 }:Dm).setF i ⟨(d.file i).now,(d.file i).now,[]⟩,0):=by
 unfold Dm.sync
 rw [ask_t hpw,hi]
 dsimp only
 rw [begin_calm hpl];rfl
end
section
variable {N sp : Nat} {d : Dm} {T : TT}
end
end
section
open Go.Maps Go.WideMaps Go.ChangeMaps
set_option maxHeartbeats 4000000
theorem raw_any (w0 w:World) (hw:Below w0.heap.size w0 w) (gw:Nat) (l:List UInt8) (h:Wr w w0.heap.size gw l) (a:Option Addr) (n c:Nat) (ps:List (List UInt8)) (hp:PartsAt w0 a n ps) (hn:n≤1000) (hl:l.length+ps.flatten.length≤1000000000000) :
 Calls Tryz.prog 258 #[.pointer (some ⟨gw,0,none⟩),.slice a n c] w fun e w'=>e=.returned (.tuple #[])∧Wr w' w0.heap.size gw (l++ps.flatten)∧Below w0.heap.size w0 w':=by
 have HP:=hid hp
 have HNL:=hid hp.1
 have HW:=hid hw
 have HL:=hid hl
 clear hp hw hl
 go_enter Tryz.func258,Tryz.ntmps258
 go_wp2_with fail
 go_loopw [8,5] (fun v _ wr=>∃ k:Nat,k≤n∧v=.int .i64 k∧Wr wr w0.heap.size gw (l++(ps.take k).flatten)∧Below w0.heap.size w0 wr) (fun v _ _=>n - (intOf v).toNat)
 case atStart=>exact ⟨0,by omega,rfl,by simpa using h,HW.out⟩
 case round =>
  clear h
  obtain ⟨k,hkn,rfl,hh,hb⟩:=hrel
  by_cases hlt:k < n
  · obtain ⟨p,hpk⟩:∃ p,ps[k]?=some p:=⟨_,List.getElem?_eq_getElem (by rw [HNL.out];exact hlt)⟩
    obtain ⟨b,off,ai,ni,ci,rfl,hc,hr⟩:=HP.out.2 k p hpk
    have hbl:b < w0.heap.size:=World.block_lt_of_cell? w0 _ hc
    have hc2:wr.cell? ⟨b,off+k,none⟩=some (.slice ai ni ci):=(hb.cell (show b < w0.heap.size from hbl)).trans hc
    have hr2:R8 wr ai ni ci p:=hr.belowB (Nat.le_refl _) hb
    obtain ⟨hgw,v,hwh,hwo⟩:=hh
    obtain ⟨M,hM⟩:∃ M,M=l++(ps.take k).flatten:=⟨_,rfl⟩
    rw [← hM] at hwo
    have hfl:=flat_take hpk
    have hle:=flat_le (ps:=ps) (k+1)
    have hni:p.length=ni:=hr2.1
    have hMl:M.length+ni≤1000000000000:=by
     rw [hfl,List.length_append] at hle
     rw [hM,List.length_append];have:=HL.out;omega
    have hlt2:gw < wr.heap.size:=(Array.getElem?_eq_some_iff.1 hwh).1
    have hne:=own_neW hwo hwh (by decide)
    have hcg:wr.cell? ⟨gw,0,none⟩=some v:=by rw [cell_of_row _ _ _ _ _ _ hwh];rfl
    have hf:=frozen_of_row wr gw 0 _ _ hwh
    have HFL:=hid (show l++(ps.take (k+1)).flatten=M++p by rw [hfl,hM,List.append_assoc])
    have HR2:=hid hr2;have HWO:=hid hwo;have HWH:=hid hwh;have HB:=hid hb
    have HZ:=hid hb.size
    have HLT:=hid hlt;have HML:=hid hMl;have HGW:=hid hgw;have HLT2:=hid hlt2;have HNI:=hid hni
    have h9:decide ((k:Int) < (n:Int))=true:=by simp;omega
    have h8:decide (k < n)=true:=by simp;omega
    have hk9:k≤1000:=by omega
    clear hkn hlt hpk hc hr hbl hr2 hwh hwo hM hfl hle hni hMl hgw hb hn
    go_wp2_with (first
     | (at_builtin;refine L_append8 rfl (.tmp 16) (.tmp 17) 53 (by rfl) sl22 w0.heap.size v _ _ (by rfl) HWO.out ai ni ci p (by rfl) HR2.out (by have:=HML.out;omega) (by have:=HML.out;simp [maxLen];omega) HZ.out (fun a3 c3 w3 ho3 hg3 hat3=>?_)
        have HO3:=hid ho3;have HG3:=hid hg3
        have hc3:=(hg3.cell_far ⟨gw,0,none⟩ hlt2 hne).trans hcg
        have hf3:=(hg3.frozen_far ⟨gw,0,none⟩ hlt2 hne).trans hf
        clear ho3 hg3 hat3))
    have hg3:=HG3.out;have ho3:=HO3.out
    have hh3:w3.heap[gw]?=some (.cells #[v] 308 (0,0)):=(hg3.block gw hlt2 hne).trans HWH.out
    have hne3:=own_neW ho3 hh3 (by decide)
    have hh4:=heap_setCell_same w3 gw 0 _ _ (.slice a3 (M.length+ni) c3) hh3
    have hgs:w3.grownBy (w3.setCell ⟨gw,0,none⟩ (.slice a3 (M.length+ni) c3)) (some gw):=grown_set (grown_refl w3 (some gw)) 0 0 _
    have ho4:=ho3.kept hgs (.inr (fun e=>hne3 e.symm))
    have hb4:Below w0.heap.size w0 (w3.setCell ⟨gw,0,none⟩ (.slice a3 (M.length+ni) c3)):=(HB.out.grown hg3 HZ.out (fun k hk=>(HWO.out.lt k hk).1)).setCell HGW.out _
    refine ⟨⟨k+1,HLT.out,by push_cast;rfl,⟨HGW.out,_,hh4,?_⟩,hb4⟩,?_⟩
    · rw [HFL.out,List.map_append]
      simpa [HNI.out] using ho4
    · have:=HLT.out
      simp [intOf];omega
  · obtain rfl:k=n:=by omega
    have htk:ps.take k=ps:=List.take_of_length_le (by rw [HNL.out];exact Nat.le_refl _)
    rw [htk] at hh
    have h9:decide ((k:Int) < (k:Int))=false:=by simp
    have h8:decide (k < k)=false:=by simp
    clear hlt hkn htk
    have HH:=hid hh
    clear hh
    go_wp2_with fail
    go_end0
    exact ⟨rfl,HH.out,hb⟩
theorem be_one (c:UInt8):be 1 c.toNat=[c]:=by
 unfold be
 simp
theorem text_any (w:World) (dm:UInt8) (a:Option Addr) (n c:Nat) (ps:List (List UInt8)) (hp:PartsAt w a n ps) (hn:n≤1000) (hl:ps.flatten.length≤1000000000) :
 Calls Tryz.prog 237 #[.int .i64 (dm.toNat:Int),.slice a n c] w fun e w'=>∃ a' n' c',e=.returned (.slice a' n' c')∧w'.ownsRow w.heap.size 5 1 (.slice a' n' c') n' ((dm :: ps.flatten).map b8)∧Below w.heap.size w w':=by
 have HP:=hid hp
 have HL:=hid hl
 have hdw:IntKind.u8.wrap (dm.toNat:Int)=(dm.toNat:Int):=IntWalk.u8_in _ (by have:=dm.toNat_lt;omega)
 clear hp hl
 go_enter Tryz.func237,Tryz.ntmps237
 go_wp2_with (first
  | (go_at_call 157;refine (new_any w).mono ?_;rintro e w1 ⟨gw,rfl,hwr,hb1⟩;have HB1:=hid hb1;have HW1:=hid hwr;clear hb1 hwr)
  | (go_at_call 158;refine (put8_any w1 w.heap.size gw [] dm HW1.out (by decide) HB1.out.size).mono ?_;rintro e w2 ⟨rfl,hwr,hb2⟩;have HW2:=hid (show Wr w2 w.heap.size gw [dm] by rw [← be_one dm];exact hwr);have HB2:=hid (HB1.out.trans hb2);clear hb2 hwr)
  | (go_at_call 258;refine (raw_any w w2 HB2.out gw [dm] HW2.out a n c ps HP.out hn (by have:=HL.out;show 1+_≤_;omega)).mono ?_;rintro e w3 ⟨rfl,hwr,hb3⟩;have HW3:=hid hwr;have HB3:=hid hb3;clear hb3 hwr)
  | (go_at_call 163;refine (all_any w3 w.heap.size gw _ HW3.out (by have:=HL.out;rw [List.length_append];show 1+_≤_;omega)).mono ?_;rintro e w4 ⟨a',n',c',rfl,ho,hb4⟩;have HO:=hid ho;have HB4:=hid hb4;clear ho hb4))
 go_ret
 exact ⟨_,_,_,rfl,owns_mono HO.out HB3.out.size,HB3.out.trans (HB4.out.mono HB3.out.size)⟩
end
section
open Go.Maps Go.WideMaps Go.ChangeMaps
theorem alOlC (w:World) (o:Obj) (i:Nat) (h:i < w.heap.size):(w.alloc o).heap[i]?=w.heap[i]?:=(bel1 w o).block i h
theorem cellC (v:Value) (e:TypeId) (w:World) (i:Nat) (u:Value) (h:[v][i]?=some u):(w.alloc (.cells #[v] e)).cell? ((⟨w.heap.size,0,none⟩:Addr).add i)=some u:=by
 have h0:(w.alloc (.cells #[v] e)).heap[w.heap.size]?=some (.cells #[v] e (0,0)):=heap_alloc_new _ _
 have ea:(⟨w.heap.size,0,none⟩:Addr).add i=⟨w.heap.size,i,none⟩:=by by_cases h0:i=0 <;> simp [Addr.add,h0]
 rw [ea,cell_of_row _ _ i _ _ _ h0]
 simpa using h
theorem sl229:Sl Tryz.prog 229 53 (.slice none 0 0) 1 24:=⟨Tryz.underlying229,by kernel_rfl,rfl,by decide⟩
def ClimbAt (w:World) (B gc:Nat) (wd:Int) (n:Nat) (tv:Value):Prop:=w.heap[gc]?=some (.cells #[.int .i64 wd,tv] 234 (0,0))∧∃ xs,w.ownsRow B 53 1 tv n xs∧∀ u ∈ xs,u.oneCell'=true
structure FrC (w w':World) (gc:Nat) (ob:Option Nat):Prop where
 b:Below 0 w w'
 blk:∀ k,k < w.heap.size→k ≠ gc→some k ≠ ob→w'.heap[k]?=w.heap[k]?
theorem FrC.of_below {w w':World} {gc:Nat} {ob:Option Nat} (h:Below w.heap.size w w'):FrC w w' gc ob:=⟨h.mono (Nat.zero_le _),fun k hk _ _=>h.block k hk⟩
theorem FrC.of_grown {w w':World} {gc:Nat} {ob:Option Nat} (h:w.grownBy w' ob):FrC w w' gc ob:=⟨⟨h.os,h.tape,h.output,h.size,fun k hk=>absurd hk (Nat.not_lt_zero k)⟩,fun k hk _ h2=>h.block k hk h2⟩
theorem FrC.of_set {w:World} {gc o:Nat} {ob:Option Nat} {v:Value}:FrC w (w.setCell ⟨gc,o,none⟩ v) gc ob:=⟨⟨rfl,rfl,rfl,by simp,fun k hk=>absurd hk (Nat.not_lt_zero k)⟩,fun k _ hk _=>heap_setCell_other w ⟨gc,o,none⟩ k _ (fun e=>hk e)⟩
theorem FrC.trans {a b c:World} {gc:Nat} {ob oc:Option Nat} (h:FrC a b gc ob) (k:FrC b c gc oc) (ho:oc=ob∨∃ x,oc=some x∧a.heap.size≤x):FrC a c gc ob :=
 ⟨h.b.trans k.b,fun j hj h1 h2=>(k.blk j (Nat.lt_of_lt_of_le hj h.b.size) h1 (by
   rcases ho with e | ⟨x,e,hx⟩
   · rw [e];exact h2
   · rw [e];intro q;have:=Option.some.inj q;omega)).trans (h.blk j hj h1 h2)⟩
theorem ClimbAt.lt {w:World} {B gc n:Nat} {wd:Int} {tv:Value} (h:ClimbAt w B gc wd n tv):gc < w.heap.size:=(Array.getElem?_eq_some_iff.1 h.1).1
theorem ClimbAt.below {w w':World} {B gc n:Nat} {wd:Int} {tv:Value} (h:ClimbAt w B gc wd n tv) (hb:Below w.heap.size w w'):ClimbAt w' B gc wd n tv :=
 ⟨(hb.block gc h.lt).trans h.1,h.2.imp fun xs ho=>⟨own_below ho.1 hb,ho.2⟩⟩
def CnOut (w w':World) (B gc n:Nat) (wd:Int) (tv:Value):Prop:=∃ tv',ClimbAt w' B gc wd (n+1) tv'∧FrC w w' gc tv.ownBlock∧(tv'.ownBlock=tv.ownBlock∨∃ k,tv'.ownBlock=some k∧w.heap.size≤k)
theorem FrC.tab {w w':World} {gc:Nat} {ob:Option Nat} (h:FrC w w' gc ob) (ht:RoundTab w) (h3:3 < w.heap.size) (h1:3 ≠ gc) (h2:some 3 ≠ ob):RoundTab w':=fun i hi=>(World.cell?_of_block (h.blk 3 h3 h1 h2)).trans (ht i hi)
set_option maxHeartbeats 8000000
theorem cnode_any (w:World) (B gc n:Nat) (tv:Value) (wd:Int) (h0:-9223372036854775808≤wd) (h1:wd≤9223372036854775807) (hc:ClimbAt w B gc wd n tv) (hn:n≤1000000) (hB:B≤w.heap.size) (l r:Dg) (ht:RoundTab w) (h3:3 < B) (hgc:3 < gc) :
 Calls Tryz.prog 205 #[.pointer (some ⟨gc,0,none⟩),.agg (dgA l.1),.agg (dgA r.1)] w fun e w'=>e=.returned (.agg (dgA (nodeD wd l r).1))∧CnOut w w' B gc n wd tv:=by
 have hlt:=hc.lt
 obtain ⟨hcb,xs,hco,hones⟩:=hc
 have HON:=hid hones
 obtain ⟨ta,tc,rfl,-⟩:=owns_shape hco
 have HT:=hid ht
 have H01:=hid (And.intro h0 h1)
 obtain ⟨E,hE⟩:∃ E,E=dgA (nodeD wd l r).1:=⟨_,rfl⟩
 have HE:=hid hE
 have HES:=hid (show E.size=32 by rw [hE,dgA_size];exact (nodeD wd l r).2)
 have HE1:=hid (show E.all (·.oneCell')=true by rw [hE];exact dgA_all _)
 obtain ⟨L,hL⟩:∃ L,L=dgA l.1:=⟨_,rfl⟩
 obtain ⟨R,hR⟩:∃ R,R=dgA r.1:=⟨_,rfl⟩
 rw [← hL,← hR]
 have HL:=hid hL;have HR:=hid hR
 have HCB:=hid hcb;have HCO:=hid hco;have HLT:=hid hlt;have HB:=hid hB;have H3:=hid (And.intro h3 hgc)
 clear ht hE h0 h1 hL hR hcb hco hones hlt hB h3 hgc
 go_enter Tryz.func205,Tryz.ntmps205
 go_upto_region 1 with (fail)
 obtain ⟨o1,ho1⟩:∃ o1:Obj,o1=.cells #[.int .u8 0,.int .u8 0,.int .u8 0,.int .u8 0,.int .u8 0,.int .u8 0,.int .u8 0,.int .u8 0,.int .u8 0,.int .u8 0,.int .u8 0,.int .u8 0,.int .u8 0,.int .u8 0,.int .u8 0,.int .u8 0,.int .u8 0,.int .u8 0,.int .u8 0,.int .u8 0,.int .u8 0,.int .u8 0,.int .u8 0,.int .u8 0,.int .u8 0,.int .u8 0,.int .u8 0,.int .u8 0,.int .u8 0,.int .u8 0,.int .u8 0,.int .u8 0] 38:=⟨_,rfl⟩
 rw [← ho1]
 have hb1:Below w.heap.size w (((w.alloc (.cells L 38)).alloc (.cells R 38)).alloc o1):=(((Below.refl _ _).alloc (Nat.le_refl _) _).alloc (by simp) _).alloc (by simp;omega) _
 have hg2:(((w.alloc (.cells L 38)).alloc (.cells R 38)).alloc o1).heap[w.heap.size]?=some (.cells L 38 (0,0)):=(Below.heap_alloc _ _ _ (by simp;omega)).trans (heap_alloc2_old w _ _)
 have hg3:(((w.alloc (.cells L 38)).alloc (.cells R 38)).alloc o1).heap[w.heap.size+1]?=some (.cells R 38 (0,0)):=(Below.heap_alloc _ _ _ (by simp)).trans (heap_alloc2_new w _ _)
 have hg1:(((w.alloc (.cells L 38)).alloc (.cells R 38)).alloc o1).heap[w.heap.size+2]?=some o1:=by
  have:=heap_alloc_new ((w.alloc (.cells L 38)).alloc (.cells R 38)) o1
  rwa [World.size_alloc,World.size_alloc] at this
 have hz1:(((w.alloc (.cells L 38)).alloc (.cells R 38)).alloc o1).heap.size=w.heap.size+3:=by simp
 generalize ((w.alloc (.cells L 38)).alloc (.cells R 38)).alloc o1=w1 at *
 obtain ⟨b1,hb1e⟩:∃ b1,b1=w.heap.size:=⟨_,rfl⟩
 obtain ⟨b2,hb2e⟩:∃ b2,b2=w.heap.size+1:=⟨_,rfl⟩
 obtain ⟨rb,hrb⟩:∃ rb,rb=w.heap.size+2:=⟨_,rfl⟩
 rw [← hrb] at hg1
 rw [← hb2e] at hg3
 rw [← hb1e] at hg2
 rw [← hrb,← hb2e,← hb1e]
 have HB1:=hid hb1;have HG1:=hid hg1;have HZ1:=hid hz1;have HOO:=hid ho1
 have HG2:=hid hg2;have HG3:=hid hg3
 have HRB:=hid (show w.heap.size≤rb by omega)
 have HRR:=hid (show b1=w.heap.size∧b2=w.heap.size+1∧rb=w.heap.size+2 from ⟨hb1e,hb2e,hrb⟩)
 clear hb1 hg1 hz1 ho1 hg2 hg3 hrb hb1e hb2e
 refine wp_region_held_drew (S:=fun _=>True) (by kernel_rfl) trivial (fun hHeld=>?_)
 apply wpT 0
 apply wpT 1
 apply wpR 2
 intro K hK
 go_simp
 apply bk hK
 · exact trivial
 intro hHeld
 clear hK K
 obtain ⟨w2,hw2⟩:∃ w2,w2=(w1.alloc (.cells #[.slice (some ⟨b1,0,none⟩) 32 32,.slice (some ⟨b2,0,none⟩) 32 32] 53)).drew:=⟨_,rfl⟩
 rw [← hw2]
 have hb2:Below w1.heap.size w1 w2:=by rw [hw2];exact ((Below.refl _ _).alloc (Nat.le_refl _) _).drew
 have hg4:w2.heap[w1.heap.size]?=some (.cells #[.slice (some ⟨b1,0,none⟩) 32 32,.slice (some ⟨b2,0,none⟩) 32 32] 53 (0,0)):=by rw [hw2];exact heap_alloc_new w1 _
 obtain ⟨q1,q2,q3⟩:=HRR.out
 have hz:=HZ1.out
 have hL2:R8 w2 (some ⟨b1,0,none⟩) 32 32 l.1:=r8_dg (by rw [hb2.block b1 (by omega),HG2.out,HL.out]) l.2
 have hR2:R8 w2 (some ⟨b2,0,none⟩) 32 32 r.1:=r8_dg (by rw [hb2.block b2 (by omega),HG3.out,HR.out]) r.2
 have hps:PartsAt w2 (some ⟨w1.heap.size,0,none⟩) 2 [l.1,r.1]:=⟨rfl,fun i p hi=>by
  match i,hi with
  | 0,hi=>cases hi;exact ⟨_,0,some ⟨b1,0,none⟩,32,32,rfl,by rw [cell_of_row _ _ _ _ _ _ hg4];rfl,hL2⟩
  | 1,hi=>cases hi;exact ⟨_,0,some ⟨b2,0,none⟩,32,32,rfl,by rw [cell_of_row _ _ _ _ _ _ hg4];rfl,hR2⟩
  | n+2,hi=>simp at hi⟩
 have hbw:Below w.heap.size w w2:=HB1.out.trans (hb2.mono (by omega))
 have hll:[l.1,r.1].flatten.length=64:=by simp [l.2,r.2]
 have HTX:=hid (show Calls Tryz.prog 237 #[.int .i64 1,.slice (some ⟨w1.heap.size,0,none⟩) 2 2] w2 fun e w'=>∃ a' n' c',e=.returned (.slice a' n' c')∧w'.ownsRow w2.heap.size 5 1 (.slice a' n' c') n' ((1 :: [l.1,r.1].flatten).map b8)∧Below w2.heap.size w2 w' from text_any w2 1 (some ⟨w1.heap.size,0,none⟩) 2 2 [l.1,r.1] hps (by omega) (by rw [hll];decide))
 have HLL:=hid hll
 have HBW:=hid hbw
 have HZ2:=hid (show w1.heap.size≤w2.heap.size from hb2.size)
 have HG12:=hid (show w2.heap[rb]?=some o1 from (hb2.block rb (by omega)).trans HG1.out)
 clear hw2 hb2 hg4 q1 q2 q3 hz hL2 hR2 hps hbw hll
 apply wpR 3
 intro K hK
 go_simp
 refine HTX.out.mono ?_
 rintro e w6 ⟨a',n',c',rfl,ho6,hb6⟩
 have HO6:=hid ho6
 have HB6:=hid (HBW.out.trans (hb6.mono HBW.out.size))
 have HG16:=hid ((hb6.block rb (Array.getElem?_eq_some_iff.1 HG12.out).1).trans HG12.out)
 clear ho6 hb6
 apply bk hK
 · exact trivial
 intro hHeld
 clear hK K
 apply wpT 4
 refine wpAnyH_done (by kernel_rfl) ?_ _
 have hcb6:=(HB6.out.block gc HLT.out).trans HCB.out
 have hco6:w6.ownsRow B 53 1 (.slice ta n tc) n xs:=own_below HCO.out HB6.out
 have hlt6:gc < w6.heap.size:=Nat.lt_of_lt_of_le HLT.out HB6.out.size
 have hc1:w6.cell? ⟨gc,1,none⟩=some (.slice ta n tc):=by rw [cell_of_row _ _ _ _ _ _ hcb6];rfl
 have hne:=own_ne HCO.out HCB.out (by decide)
 have hne6:=own_ne hco6 hcb6 (by decide)
 have HCB6:=hid hcb6;have HCO6:=hid hco6;have HLT6:=hid hlt6
 have HS6:=hid (show B≤(w6.alloc (.cells #[.slice a' n' c'] 53)).heap.size by rw [World.size_alloc];have:=HB.out;have:=HB6.out.size;omega)
 have HNE:=hid hne6
 clear hcb6 hco6 hlt6 hne hne6
 go_wp2_with (first
  | (at_builtin;refine L_appendN rfl (.tmp 16) (.tmp 18) 229 (by rfl) sl229 B (.slice ta n tc) n xs (by rfl) (HCO6.out.alloc _) ⟨w6.heap.size,0,none⟩ 1 1 [.slice a' n' c'] (by rfl) rfl (fun j u hu=>cellC (.slice a' n' c') 53 w6 j u hu) (by intro u hu;simp only [List.mem_cons,List.not_mem_nil,or_false] at hu;rw [hu];rfl) (by omega) (by simp [maxLen];omega) HS6.out (fun a8 c8 w8 ho8 hg8 hat8=>?_)
     have HO8:=hid ho8;have HG8:=hid hg8;have HAT8:=hid hat8
     have hcb8:=(hg8.block gc (by rw [World.size_alloc];have:=HLT6.out;omega) (fun e=>HNE.out e.symm)).trans ((alOlC w6 _ gc HLT6.out).trans HCB6.out)
     have HCB8:=hid hcb8
     have hc8:w8.cell? ⟨gc,1,none⟩=some (.slice ta n tc):=by rw [cell_of_row _ _ _ _ _ _ hcb8];rfl
     have hf8:=frozen_of_row w8 gc 1 _ _ hcb8
     clear ho8 hg8 hat8 hcb8))
 obtain ⟨w9,hw9⟩:∃ w9,w9=w8.setCell ⟨gc,1,none⟩ (.slice a8 (n+1) c8):=⟨_,rfl⟩
 rw [← hw9]
 have hcb9:w9.heap[gc]?=some (.cells #[.int .i64 wd,.slice a8 (n+1) c8] 234 (0,0)):=by
  have:=heap_setCell_same w8 gc 1 _ _ (.slice a8 (n+1) c8) HCB8.out
  rw [hw9];simpa using this
 have hob:∀ k,(Value.slice ta n tc).ownBlock=some k→B≤k∧k < w.heap.size:=fun k hk=>HCO.out.lt k hk
 have hfr9:FrC w6 w9 gc (Value.slice ta n tc).ownBlock:=by
  rw [hw9]
  exact ((FrC.of_below (bel1 w6 _)).trans (FrC.of_grown HG8.out) (.inl rfl)).trans FrC.of_set (.inl rfl)
 have hfr:FrC w w9 gc (Value.slice ta n tc).ownBlock:=(FrC.of_below HB6.out).trans hfr9 (.inl rfl)
 have hown9:w9.ownsRow B 53 1 (.slice a8 (n+1) c8) (n+1) (xs++[Value.slice a' n' c']):=by
  refine own_same HO8.out fun k hk=>?_
  rw [hw9]
  refine heap_setCell_other w8 ⟨gc,1,none⟩ k _ fun e=>?_
  have e:k=gc:=e
  exact own_ne HO8.out HCB8.out (by decide) (hk.trans (by rw [e]))
 have hat9:(Value.slice a8 (n+1) c8).ownBlock=(Value.slice ta n tc).ownBlock∨∃ k,(Value.slice a8 (n+1) c8).ownBlock=some k∧w.heap.size≤k:=by
  rcases HAT8.out with e | e
  · exact .inl e
  · exact .inr ⟨_,e,by rw [World.size_alloc];have:=HB6.out.size;omega⟩
 have hlen9:(1 :: [l.1,r.1].flatten).length=65:=by simp [l.2,r.2]
 have hr9:R8 w9 a' n' c' (1 :: [l.1,r.1].flatten):=by
  refine R8.of_owns' (own_same HO6.out fun k hk=>?_) (by rw [hlen9];decide)
  have hk2:=HO6.out.lt k hk
  refine hfr9.blk k hk2.2 (fun e=>?_) (fun e=>?_)
  · have:=HLT.out;have:=HBW.out.size;omega
  · have:=hob k e.symm;have:=HBW.out.size;omega
 have hrt9:RoundTab w9:=hfr.tab HT.out (by have:=H3.out;have:=HB.out;omega) (by have:=H3.out;omega) (fun e=>by have:=hob 3 e.symm;have:=H3.out;omega)
 have hg19:w9.heap[rb]?=some o1:=(hfr9.blk rb (Array.getElem?_eq_some_iff.1 HG16.out).1 (by have:=HRB.out;have:=HLT.out;omega) (fun e=>by have:=hob rb e.symm;have:=HRB.out;omega)).trans HG16.out
 have hs9:w9.heap.size ≥ 4:=by have:=hfr.b.size;have:=HB.out;have:=H3.out;omega
 have HDS:=hid (show Calls Tryz.prog 111 #[.slice a' n' c'] w9.drew (fun e w'=>e=.returned (.agg (dgA (shaP (1 :: [l.1,r.1].flatten))))∧Below w9.drew.heap.size w9.drew w') from dsum_any w9.drew a' n' c' _ hr9 hrt9 (by show 3 < w9.heap.size;omega) (by have:=hr9.1;omega))
 have HCUT:=hid (fun wx=>show Calls Tryz.prog 110 #[.agg (dgA (shaP (1 :: [l.1,r.1].flatten))),.int .i64 wd] wx (fun e w'=>e=.returned (.agg E)∧Below wx.heap.size wx w') by
  have:=cut_dg wx (shaP (1 :: [l.1,r.1].flatten)) (shaP_len _) wd H01.out.1 H01.out.2
  rw [HE.out]
  have e:(nodeD wd l r).1=cutP' wd (shaP (1 :: [l.1,r.1].flatten)):=by show nodeP wd l.1 r.1=_;unfold nodeP ofP;simp
  rw [e];exact this)
 obtain ⟨DD,hDD⟩:∃ DD,DD=dgA (shaP (1 :: [l.1,r.1].flatten)):=⟨_,rfl⟩
 rw [← hDD] at HDS HCUT
 have hs0:(fun x=>x.cell? ⟨gc,0,none⟩=some (.int .i64 wd)) w9.drew:=by show w9.cell? ⟨gc,0,none⟩=_;rw [cell_of_row _ _ _ _ _ _ hcb9];rfl
 have HCB9:=hid hcb9;have HFR:=hid hfr;have HOWN9:=hid hown9;have HAT9:=hid hat9;have HG19:=hid hg19
 have HSC:=hid (fun (wx:World) (hb:Below w9.heap.size w9 wx)=>show (fun x=>x.cell? ⟨gc,0,none⟩=some (.int .i64 wd)) wx by show wx.cell? ⟨gc,0,none⟩=_;rw [cell_of_row _ _ _ _ _ _ ((hb.block gc (Array.getElem?_eq_some_iff.1 hcb9).1).trans hcb9)];rfl)
 clear hw9 hcb9 hob hfr9 hfr hown9 hat9 hlen9 hr9 hrt9 hg19 hs9 hDD hc8 hf8 hc1
 refine wp_region_held_drew (S:=fun x=>x.cell? ⟨gc,0,none⟩=some (.int .i64 wd)) (by kernel_rfl) hs0 (fun hHeld=>?_)
 apply wpT 0
 apply wpT 2
 apply wpT 3
 apply wpT 4
 apply wpT 5
 apply wpR 1
 intro K hK
 go_simp
 refine HDS.out.mono ?_
 rintro e w10 ⟨rfl,hb10⟩
 have HB10:=hid (show Below w9.heap.size w9 w10 from ⟨hb10.os,hb10.tape,hb10.output,hb10.size,hb10.block⟩)
 clear hb10
 apply bk hK
 · exact (HSC.out _ HB10.out)
 intro hHeld
 clear hK K
 apply wpR 6
 intro K hK
 go_simp
 refine (HCUT.out w10).mono ?_
 rintro e w11 ⟨rfl,hb11⟩
 have HB11:=hid (HB10.out.trans (hb11.mono HB10.out.size))
 clear hb11
 apply bk hK
 · exact (HSC.out _ HB11.out)
 intro hHeld
 clear hK K
 have hO:=(HB11.out.block rb (Array.getElem?_eq_some_iff.1 HG19.out).1).trans HG19.out
 rw [HOO.out] at hO
 have HTH:=hid (there_block hO)
 have HGF:=hid (setCells_all hO E.toList (by rw [Array.length_toList,HES.out];rfl))
 have HSN:=hid (show (fun x=>x.cell? ⟨gc,0,none⟩=some (.int .i64 wd)) (w11.setCells rb 0 E.toList) by
  have hgr:=setCells_grown rb E.toList 0 w11
  have hb:=(HB11.out.block gc (Array.getElem?_eq_some_iff.1 HCB9.out).1).trans HCB9.out
  have:=(hgr.block gc (Array.getElem?_eq_some_iff.1 hb).1 (fun e=>by have:=Option.some.inj e;have:=HRB.out;have:=HLT.out;omega)).trans hb
  show (w11.setCells rb 0 E.toList).cell? ⟨gc,0,none⟩=_
  rw [cell_of_row _ _ _ _ _ _ this];rfl)
 clear hO
 apply wpR 7
 intro K hK
 refine S_store_mid rfl 38 (.tmp 6) (.tmp 28) (by rfl) rb 0 E (by rfl) (by rfl) (by rw [HES.out];exact HTH.out) (by rw [HES.out];exact info38) HE1.out ?_
 apply bk hK
 · exact HSN.out
 intro hHeld
 clear hK K
 refine wpAnyH_done (by kernel_rfl) ?_ _
 have HFRE:=hid (show FrC w (w11.setCells rb 0 E.toList) gc (Value.slice ta n tc).ownBlock∧ClimbAt (w11.setCells rb 0 E.toList) B gc wd (n+1) (.slice a8 (n+1) c8) by
  have hgr:=setCells_grown rb E.toList 0 w11
  have hrb9:rb < w9.heap.size:=(Array.getElem?_eq_some_iff.1 HG19.out).1
  have hk:∀ k,k < w9.heap.size→k ≠ rb→(w11.setCells rb 0 E.toList).heap[k]?=w9.heap[k]?:=fun k hk hn=>(hgr.block k (Nat.lt_of_lt_of_le hk HB11.out.size) (fun e=>hn (Option.some.inj e))).trans (HB11.out.block k hk)
  refine ⟨⟨?_,fun k hk0 h1 h2=>?_⟩,(hk gc (Array.getElem?_eq_some_iff.1 HCB9.out).1 (by have:=HRB.out;have:=HLT.out;omega)).trans HCB9.out,_,own_same HOWN9.out fun k hk2=>hk k (HOWN9.out.lt k hk2).2 fun e=>?_,fun u hu=>?_⟩
  · exact (HFR.out.b.trans (HB11.out.mono (Nat.zero_le _))).trans ⟨hgr.os,hgr.tape,hgr.output,hgr.size,fun k hk=>absurd hk (Nat.not_lt_zero k)⟩
  · exact (hk k (Nat.lt_of_lt_of_le hk0 HFR.out.b.size) (by have:=HRB.out;omega)).trans (HFR.out.blk k hk0 h1 h2)
  · rcases HAT9.out with q | ⟨x,q,hx⟩
    · rw [q] at hk2;have:=HCO.out.lt k hk2;have:=HRB.out;omega
    · subst e
      exact own_ne HOWN9.out (HG19.out.trans (by rw [HOO.out])) (by decide) hk2
  · rcases List.mem_append.1 hu with q | q
    · exact HON.out u q
    · simp only [List.mem_cons,List.not_mem_nil,or_false] at q;rw [q];rfl)
 have HGF9:=hid (show (w11.setCells rb 0 E.toList).heap[rb]?=some (.cells E 38 (0,0)) by have:=HGF.out;simpa using this)
 generalize w11.setCells rb 0 E.toList=w12 at *
 clear HTH HGF
 go_wp2_with fail
 refine bodyPost_ret (v:=.agg E) (results_cell_row (p:=6) (ty:=38) rfl _ _ rb 38 E (0,0) _ rfl HGF9.out Tryz.underlying38 rfl (by rw [HES.out];exact info38)) rfl ⟨by rw [HE.out],_,HFRE.out.2,HFRE.out.1,HAT9.out⟩
end
end Go.Proofs.YtgkehahklccacaaGreatDoor
