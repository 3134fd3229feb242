import Derived.Test.YtgkehahklccacaaGreatDoorC39
import Derived.Test.YtgkehahklccacaaGreatDoorC25
import Derived.Test.YtgkehahklccacaaGreatDoorC03
namespace Go.Proofs.YtgkehahklccacaaGreatDoor
open Go Go.RowKit
open Go.Lib (hid)
set_option maxRecDepth 100000
set_option maxHeartbeats 1000000
set_option linter.unusedVariables false
set_option linter.unusedSimpArgs false
section
open Go.Maps Go.WideMaps Go.ChangeMaps
def oneD (a u:Nat) (f:Fl) (sf:List (Nm × Nat)) (ch:List Chg) (cl:List (Nm × Int)):Dm:=⟨a,1099511627776,(u:Int),0,true,[f],[(tlN,0)],sf,ch,[],cl⟩
def OneS (sf:List (Nm × Nat)) (ch:List Chg):Prop:=(sf=[]∧ch=[⟨[],tlN,some 0⟩])∨(sf=[(tlN,0)]∧ch=[])
def OneF (f:Fl):Prop:=f.now.length≤200000∧f.safe.length≤200000∧f.loose.length≤100
section
variable {a u : Nat} {f : Fl} {sf : List (Nm × Nat)} {ch : List Chg} {cl : List (Nm × Int)}
theorem one_lk:lk (oneD a u f sf ch cl).names tlN=some 0:=by
 show lk [(tlN,0)] tlN=_
 rw [lk_one,if_pos rfl]
theorem one_nm (s:Nm) (i:Nat) (h:lk [(tlN,(0:Nat))] s=some i):i < 1:=by
 rw [lk_one] at h
 split at h
 · cases h;decide
 · cases h
theorem one_pre (ha:a≤100) (hs:OneS sf ch) (hf:OneF f):Pre (oneD a u f sf ch cl):=by
 obtain ⟨f1,f2,f3⟩:=hf
 have hfl:∀ g ∈ (oneD a u f sf ch cl).fs,g.now.length≤2147483647∧g.safe.length≤2147483647∧g.loose.length < 1099511627776:=fun g hg=>by
  obtain rfl:g=f:=List.mem_singleton.1 hg
  exact ⟨by omega,by omega,by omega⟩
 have hnd:(keysOf [(tlN,(0:Nat))]).Nodup:=List.nodup_cons.2 ⟨by simp,List.nodup_nil⟩
 have hlg:∀ s ∈ keysOf [(tlN,(0:Nat))],legalB (bs s)=true:=fun s hs=>by
  obtain rfl:s=tlN:=List.mem_singleton.1 hs
  exact tN_legal
 rcases hs with ⟨rfl,rfl⟩ | ⟨rfl,rfl⟩
 · exact ⟨⟨one_nm,(fun s i h=>by cases h),(fun c hc i hi=>by obtain rfl:=List.mem_singleton.1 hc;cases hi;show 0 < 1;decide)⟩,hnd,List.nodup_nil,(by show 1≤4096;decide),Nat.zero_le _,(by show a < _;omega),(by show 0 < _;decide),(by show 1 < _;decide),(by show 1 < _;decide),hlg,hfl⟩
 · exact ⟨⟨one_nm,one_nm,(fun c hc=>by cases hc)⟩,hnd,hnd,(by show 1≤4096;decide),(by show 1≤4096;decide),(by show a < _;omega),(by show 0 < _;decide),(by show 1 < _;decide),(by show 0 < _;decide),hlg,hfl⟩
theorem one_len:(oneD a u f sf ch cl).length tlN=((f.now.length:Int),0):=by
 rw [length_t rfl,one_lk];rfl
theorem one_app (p:List UInt8) (hu:u=f.now.length) (hf:f.now.length≤200000) (hp:p.length≤200000) (h0:p ≠ []) :
 (oneD a u f sf ch cl).append tlN p=(oneD (a+1) (u+p.length) ⟨f.now++p,f.safe,f.loose++[⟨p,0⟩]⟩ sf ch cl,0):=by
 have hfit:p.take (max (wrap64 ((oneD a u f sf ch cl).space - (oneD a u f sf ch cl).used)) 0).toNat=p:=by
  show p.take (max (wrap64 ((1099511627776:Int) - (u:Int))) 0).toNat=p
  rw [wrap64_small (by omega) (by omega)]
  exact List.take_of_length_le (by omega)
 have hk:((oneD a u f sf ch cl).planned (oneD a u f sf ch cl).acts).kind=0:=rfl
 unfold Dm.append
 rw [ask_t rfl,one_lk]
 dsimp only
 rw [if_neg (by show ¬ 2147483647 - ((f.now.length:Int)) < _;omega),hfit,begin_calm rfl,if_neg (by rintro ⟨-,q⟩;omega)]
 unfold partOf
 rw [show ((p.length:Nat):Int).toNat=p.length by omega,List.take_length]
 dsimp only
 rw [if_neg h0]
 show ((⟨a+1,1099511627776,wrap64 ((u:Int)+(p.length:Int)),0,true,[⟨f.now++p,f.safe,f.loose++[⟨p,0⟩]⟩],[(tlN,0)],sf,ch,[],cl⟩:Dm),(0:Int))=_
 rw [wrap64_small (by omega) (by omega)]
 unfold oneD
 rw [show ((u+p.length:Nat):Int)=(u:Int)+(p.length:Int) by push_cast;rfl]
theorem one_cut (c:Nat) (hu:u=f.now.length) (hf:f.now.length≤200000) (hc:c≤f.now.length) :
 (oneD a u f sf ch cl).cut tlN (c:Int)=(oneD (a+1) c ⟨f.now.take c,f.safe,f.loose++[⟨[],c⟩]⟩ sf ch cl,0):=by
 rw [cut_is rfl rfl one_lk c hc]
 show ((⟨a+1,1099511627776,wrap64 ((u:Int) - wrap64 ((f.now.length:Int) - c)),0,true,[⟨f.now.take c,f.safe,f.loose++[⟨[],c⟩]⟩],[(tlN,0)],sf,ch,[],cl⟩:Dm),(0:Int))=_
 rw [wrap64_small (x:=(f.now.length:Int) - c) (by omega) (by omega),wrap64_small (by omega) (by omega)]
 unfold oneD
 rw [show (u:Int) - ((f.now.length:Int) - c)=(c:Int) by omega]
theorem one_sync:(oneD a u f sf ch cl).sync tlN=(oneD (a+1) u ⟨f.now,f.now,[]⟩ sf ch cl,0):=by
 rw [sync_is rfl rfl one_lk];rfl
theorem one_names:(oneD a u f sf ch cl).syncNames=(oneD (a+1) u f [(tlN,0)] [] cl,0):=by
 unfold Dm.syncNames
 rw [if_neg (show ¬ (oneD a u f sf ch cl).power=false from (by decide:¬ true=false)),begin_calm rfl];rfl
theorem drop_ne (T:List (List UInt8)) (hl:∀ x ∈ T,x.length=8207) (m:Nat) (hm:m < T.length):(T.drop m).flatten ≠ []:=by
 intro e
 have:=flatten_len (T.drop m) 8207 fun x hx=>hl x (List.mem_of_mem_drop hx)
 rw [e,List.length_drop] at this
 simp only [List.length_nil] at this;omega
theorem drop_le (T:List (List UInt8)) (m k:Nat) (h:T.flatten.length≤k):(T.drop m).flatten.length≤k:=by
 have:T.flatten=(T.take m).flatten++(T.drop m).flatten:=by rw [← List.flatten_append,List.take_append_drop]
 rw [this,List.length_append] at h;omega
structure OneE (T:List (List UInt8)) (r:Fs × Dm × Int):Prop where
 e:r.2.2=0
 h:r.1.held=T.length
 k:r.2.1.kept=[(tlN,T.flatten)]
 p:Pre r.2.1
 w:r.2.1.power=true
theorem one_end (T:List (List UInt8)) (s:Fs) (hh:s.held=T.length) (hn:f.now=T.flatten) (hf:OneF f) (ha:a≤50) (hs:OneS sf ch) (h0:s.l0=false→f.safe=f.now) (h1:s.l1=false→sf=[(tlN,0)]):OneE T (syncP s (oneD a u f sf ch cl)):=by
 have h2:∀ (s:Fs) (a:Nat) (f:Fl),s.held=T.length→f.safe=T.flatten→OneF f→a≤60→(s.l1=false→sf=[(tlN,0)])→OneE T (syncP2 s (oneD a u f sf ch cl)):=by
  intro s a f hh hn hf ha h1
  unfold syncP2
  by_cases e:s.l1=true
  · rw [if_pos e,one_names,if_pos rfl]
    exact ⟨rfl,hh,by show [(tlN,f.safe)]=_;rw [hn],one_pre (by omega) (.inr ⟨rfl,rfl⟩) hf,rfl⟩
  · rw [if_neg e]
    refine ⟨rfl,hh,?_,one_pre (by omega) hs hf,rfl⟩
    rw [h1 (by simpa using e)]
    show [(tlN,f.safe)]=_
    rw [hn]
 unfold syncP
 obtain ⟨f1,f2,f3⟩:=hf
 by_cases e:s.l0=true
 · rw [if_pos e,one_sync,if_pos rfl]
   exact h2 { s with l0:=false } (a+1) _ hh hn ⟨f1,f1,Nat.zero_le _⟩ (by omega) h1
 · rw [if_neg e]
   exact h2 s a f hh ((h0 (by simpa using e)).trans hn) ⟨f1,f2,f3⟩ (by omega) h1
theorem one_lay (T:List (List UInt8)) (s:Fs) (hl:∀ x ∈ T,x.length=8207) (hT:T.flatten.length≤100000) (hh:s.held≤T.length) (hn:f.now=(T.take s.held).flatten) (hu:u=f.now.length) (h2:f.safe.length≤100000) (h3:f.loose.length≤50) (ha:a≤40) (hs:OneS sf ch) (h0:s.l0=false→f.safe=f.now) (h1:s.l1=false→sf=[(tlN,0)]):OneE T (layP T s (oneD a u f sf ch cl)):=by
 have hs2:T.flatten=(T.take s.held).flatten++(T.drop s.held).flatten:=by rw [← List.flatten_append,List.take_append_drop]
 have hsl:=congrArg List.length hs2
 rw [List.length_append,← hn] at hsl
 unfold layP
 by_cases e:s.held=T.length
 · rw [if_pos e]
   refine one_end T s e ?_ ⟨by omega,by omega,by omega⟩ (by omega) hs h0 h1
   rw [hn,e,List.take_length]
 · rw [if_neg e]
   dsimp only
   rw [one_app _ hu (by omega) (by omega) (drop_ne T hl _ (by omega)),if_pos rfl]
   exact one_end T _ rfl (by show f.now++_=_;rw [hn,← hs2]) ⟨by show (f.now++_).length≤_;rw [List.length_append];omega,by show f.safe.length≤_;omega,by show (f.loose++_).length≤_;simp;omega⟩ (by omega) hs (fun q=>by cases q) h1
theorem one_p4 {T:TT} (hl:T.L.length≤2000) (hh:T.held≤T.L.length / 256) (hu:u=f.now.length) (h2:f.now.length≤100000) (h3:f.safe.length≤100000) (h4:f.loose.length≤50) (ha:a≤40) (hs:OneS sf ch):P4 (oneD a u f sf ch cl) T:=by
 have hT:T.tls.flatten.length≤100000:=by rw [tls_flat];omega
 have hd:=drop_le T.tls T.held _ hT
 have key:∃ a' u' f',(appD (oneD a u f sf ch cl) T).1=oneD a' u' f' sf ch cl∧a'≤41∧OneF f':=by
  unfold appD
  split
  · exact ⟨a,u,f,rfl,by omega,by omega,by omega,by omega⟩
  · dsimp only
    rename_i e
    rw [← tls_drop T T.held hh,one_app _ hu (by omega) (by omega) (drop_ne T.tls (tls_each T) _ (by rw [tls_len];omega))]
    dsimp only
    rw [if_neg (fun q=>q rfl)]
    exact ⟨a+1,_,_,rfl,by omega,by show (f.now++_).length≤_;rw [List.length_append];omega,by show f.safe.length≤_;omega,by show (f.loose++_).length≤_;simp;omega⟩
 obtain ⟨a',u',f',he,h5,f1,f2,f3⟩:=key
 refine ⟨one_pre (by omega) hs ⟨by omega,by omega,by omega⟩,?_,?_⟩
 · rw [he];exact one_pre (by omega) hs ⟨f1,f2,f3⟩
 · rw [he,one_sync];exact one_pre (by omega) hs ⟨f1,f1,Nat.zero_le _⟩
theorem one_p3 {T:TT} (hl:T.L.length≤2000) (hh:T.held≤T.L.length / 256) (hu:u=f.now.length) (h2:f.now.length≤100000) (h3:f.safe.length≤100000) (h4:f.loose.length≤40) (ha:a≤30) (hs:OneS sf ch):P3 (f.now.length:Nat) (oneD a u f sf ch cl) T:=by
 refine ⟨one_pre (by omega) hs ⟨by omega,by omega,by omega⟩,fun _=>one_p4 hl hh hu h2 h3 (by omega) (by omega) hs,fun q _=>?_⟩
 rw [one_cut (T.held * 8207) hu (by omega) (by omega)]
 exact one_p4 (T:={ T with l0:=true }) (a:=a+1) hl hh (by show _=(f.now.take _).length;rw [List.length_take];omega) (by show (f.now.take _).length≤_;rw [List.length_take];omega) h3 (by show (f.loose++_).length≤_;rw [List.length_append];show _+1≤_;omega) (by omega) hs
end
theorem img_flush (T:TT) (x:List UInt8) (cl:List (Nm × Int)) (hl:T.L.length≤2000) (hh:T.held≤T.L.length / 256) (hx:x.length≤100000) (hb:T.held * 8207≤x.length) (hp:x.take (T.held * 8207)=(T.tls.take T.held).flatten) (h1:T.l1=false) :
 P2 { imgT x with claims:=cl } T∧OneE T.tls (flushP T.tls T.fs { imgT x with claims:=cl }):=by
 have hd:({ imgT x with claims:=cl }:Dm)=oneD 0 x.length ⟨x,x,[]⟩ [(tlN,0)] [] cl:=rfl
 have hs:OneS [(tlN,0)] []:=.inr ⟨rfl,rfl⟩
 have hT:T.tls.flatten.length≤100000:=by rw [tls_flat];omega
 rw [hd]
 have hlen:(oneD 0 x.length ⟨x,x,[]⟩ [(tlN,0)] [] cl).length tlN=((x.length:Int),0):=one_len
 refine ⟨⟨one_pre (Nat.zero_le _) hs ⟨by show x.length≤_;omega,by show x.length≤_;omega,Nat.zero_le _⟩,fun _=>?_,fun q=>?_⟩,?_⟩
 · rw [hlen]
   exact one_p3 (f:=⟨x,x,[]⟩) hl hh rfl hx hx (Nat.zero_le _) (Nat.zero_le _) hs
 · rw [hlen] at q;cases q
 · have hhl:T.fs.held≤T.tls.length:=by rw [tls_len];exact hh
   unfold flushP
   rw [hlen]
   dsimp only
   rw [if_neg (by rintro ⟨e,-⟩;cases e),if_neg (by rintro ⟨e,-⟩;exact e rfl),if_neg (by decide)]
   unfold cutP
   by_cases q:((T.fs.held * 8207:Nat):Int) < (x.length:Int)
   · rw [if_pos q,one_cut (f:=⟨x,x,[]⟩) (T.fs.held * 8207) rfl (by show x.length≤_;omega) (by show T.held * 8207≤x.length;omega),if_pos rfl]
     exact one_lay T.tls _ (tls_each T) hT hhl hp (by show T.held * 8207=(x.take (T.held * 8207)).length;rw [List.length_take];omega) hx (by show ([]++[_]:List Run).length≤_;simp) (by omega) hs (fun e=>by cases e) (fun _=>rfl)
   · rw [if_neg q]
     have q:¬ ((T.held * 8207:Nat):Int) < (x.length:Int):=q
     refine one_lay (f:=⟨x,x,[]⟩) T.tls _ (tls_each T) hT hhl ?_ rfl hx (Nat.zero_le _) (by omega) hs (fun _=>rfl) (fun _=>rfl)
     show x=_
     rw [← show x.take (T.held * 8207)=x from List.take_of_length_le (by omega)]
     exact hp
theorem new_flush (T:TT) (cl:List (Nm × Int)) (hl:T.L.length≤2000) (hh:T.held=0) :
 P2 { Dm.new 1099511627776 with claims:=cl } T∧(T.tls ≠ []→OneE T.tls (flushP T.tls T.fs { Dm.new 1099511627776 with claims:=cl }))∧(T.tls=[]→flushP T.tls T.fs { Dm.new 1099511627776 with claims:=cl }=(T.fs,{ Dm.new 1099511627776 with claims:=cl },0)):=by
 have hs:OneS [] [⟨[],tlN,some 0⟩]:=.inl ⟨rfl,rfl⟩
 have hT:T.tls.flatten.length≤100000:=by rw [tls_flat];omega
 have hlen:({ Dm.new 1099511627776 with claims:=cl }:Dm).length tlN=(0,32):=by rw [length_t rfl];rfl
 have hcr:({ Dm.new 1099511627776 with claims:=cl }:Dm).create tlN=(oneD 1 0 ⟨[],[],[]⟩ [] [⟨[],tlN,some 0⟩] cl,0):=by
  unfold Dm.create
  dsimp only
  rw [ask_t rfl]
  dsimp only
  show (if (32:Int)=0 then _ else _)=_
  rw [if_neg (by decide)]
  show (if (32:Int)=32 then _ else _)=_
  rw [if_pos rfl,if_neg (by show ¬ 4096≤0;decide),begin_calm rfl]
  rfl
 have hp:Pre { Dm.new 1099511627776 with claims:=cl }:=⟨⟨(fun s i h=>by cases h),(fun s i h=>by cases h),(fun c hc=>by cases hc)⟩,List.nodup_nil,List.nodup_nil,Nat.zero_le _,Nat.zero_le _,(by show 0 < _;decide),(by show 0 < _;decide),(by show 0 < _;decide),(by show 0 < _;decide),(fun s h=>by cases h),(fun f h=>by cases h)⟩
 refine ⟨⟨hp,fun q=>?_,fun _ _=>?_⟩,fun hne=>?_,fun he=>?_⟩
 · rw [hlen] at q;cases q
 · rw [hlen,hcr]
   exact one_p3 (T:={ T with l0:=true,l1:=true }) (f:=⟨[],[],[]⟩) hl (by show T.held≤_;omega) rfl (Nat.zero_le _) (Nat.zero_le _) (Nat.zero_le _) (by omega) hs
 · unfold flushP
   rw [hlen]
   dsimp only
   rw [if_neg (by rintro ⟨-,e⟩;exact hne e),if_neg (by rintro ⟨-,e⟩;exact e rfl),if_pos rfl,hcr]
   dsimp only
   rw [if_pos rfl]
   unfold cutP
   rw [if_neg (by show ¬ ((T.held * 8207:Nat):Int) < 0;omega)]
   exact one_lay T.tls _ (tls_each T) hT (by show T.held≤_;omega) (by show []=(T.tls.take T.held).flatten;rw [hh];rfl) rfl (Nat.zero_le _) (Nat.zero_le _) (by omega) hs (fun e=>by cases e) (fun e=>by cases e)
 · unfold flushP
   rw [hlen,if_pos ⟨rfl,he⟩]
end
section
open Go.Maps Go.WideMaps Go.ChangeMaps
theorem foldl_inj:∀ (l l':List UInt8) (n n':Nat),l.length=l'.length→l.foldl (fun n c=>n * 256+c.toNat) n=l'.foldl (fun n c=>n * 256+c.toNat) n'→n=n'∧l=l'
 | [],[],n,n',_,h=>⟨h,rfl⟩
 | c :: l,c' :: l',n,n',hl,h=>by
   obtain ⟨h1,rfl⟩:=foldl_inj l l' _ _ (by simpa using hl) h
   have h1:n * 256+c.toNat=n' * 256+c'.toNat:=h1
   have:=c.toNat_lt;have:=c'.toNat_lt
   have e:n=n'∧c.toNat=c'.toNat:=by omega
   exact ⟨e.1,by rw [UInt8.toNat_inj.1 e.2]⟩
 | [],_ :: _,_,_,hl,_=>by simp at hl
 | _ :: _,[],_,_,hl,_=>by simp at hl
theorem valN_inj {l l':List UInt8} (hl:l.length=l'.length) (h:valN l=valN l'):l=l':=(foldl_inj l l' 0 0 hl h).2
theorem set_ne {l:List UInt8} {q:Nat} {c c':UInt8} (hq:l[q]?=some c) (hc:c ≠ c'):l.set q c' ≠ l:=by
 intro e
 have h1:(l.set q c')[q]?=some c':=by
  rw [List.getElem?_set_self (List.getElem?_eq_some_iff.1 hq).1]
 rw [e,hq] at h1
 exact hc (Option.some.inj h1)
theorem set_crc {l:List UInt8} {q:Nat} {c c':UInt8} (hq:l[q]?=some c) (hc:c ≠ c'):crc (l.set q c') ≠ crc l:=by
 have hlt:=(List.getElem?_eq_some_iff.1 hq).1
 have hg:=(List.getElem?_eq_some_iff.1 hq).2
 have h1:l.set q c'=l.take q++c' :: l.drop (q+1):=by rw [List.set_eq_take_append_cons_drop,if_pos hlt]
 have h2:l=l.take q++c :: l.drop (q+1):=by
  rw [← hg,List.getElem_cons_drop,List.take_append_drop]
 intro e
 rw [h1] at e
 exact crc_flip _ _ c' c (fun q=>hc q.symm) (e.trans (congrArg crc h2))
theorem tile_bad (wd j:Nat) (ds:List Dg) (h:ds.length=256) (q:Nat) (c c':UInt8) (hq:(tileP wd j ds)[q]?=some c) (hc:c ≠ c'):TileBad wd j ((tileP wd j ds).set q c'):=by
 rintro ⟨-,-,-,-,h5⟩
 have hlt:=(List.getElem?_eq_some_iff.1 hq).1
 rw [tileP_len,h] at hlt
 have hcr:=tile_crc wd j ds h
 have hhd:=tile_head wd j ds h
 have hv:valN (((tileP wd j ds).drop 8203).take 4)=(crc ((tileP wd j ds).take 8203)).toNat:=by
  rw [hcr,hhd,valN_be 4 _ (crc_lt _)]
 by_cases e:q < 8203
 · rw [List.drop_set,if_pos e,hv,List.take_set] at h5
   exact set_crc (by rw [List.getElem?_take,if_pos e];exact hq) hc (UInt32.toNat_inj.1 h5.symm)
 · rw [List.drop_set,if_neg e,List.take_set,show ((tileP wd j ds).set q c').take 8203=(tileP wd j ds).take 8203 by rw [List.take_set_of_le (by omega)],← hv] at h5
   refine set_ne ?_ hc (valN_inj (by simp) h5)
   rw [List.getElem?_take,if_pos (by omega),List.getElem?_drop,show 8203+(q - 8203)=q by omega]
   exact hq
theorem tq_cut (wd:Nat) (dss:Nat→List Dg) {m F:Nat} (h:m≤F):∃ r,tilesQ wd dss F=tilesQ wd dss m++r:=by
 rcases Nat.lt_or_ge m F with e | e
 · obtain ⟨r,hr⟩:=tilesQ_split wd dss e
   exact ⟨_,by rw [hr,List.append_assoc]⟩
 · obtain rfl:m=F:=by omega
   exact ⟨[],by simp⟩
theorem chunk_pre (ls:List Dg) (n0:Nat) (hn:n0≤ls.length) (j:Nat) (hj:j < n0 / 256):chunk (ls.take n0) j=chunk ls j:=by
 unfold chunk
 rw [List.drop_take,List.take_take,Nat.min_eq_left (by omega)]
theorem tq_pre (wd:Nat) (ls:List Dg) (n0:Nat) (hn:n0≤ls.length) {m:Nat} (hm:m≤n0 / 256):tilesQ wd (chunk (ls.take n0)) m=tilesQ wd (chunk ls) m:=by
 unfold tilesQ
 congr 1
 refine List.map_congr_left fun j hj=>?_
 rw [chunk_pre ls n0 hn j (by have:=List.mem_range.1 hj;omega)]
structure Spl (wd:Int) (ls:List Dg) (n0:Nat) (y:List UInt8) (m:Nat) (rest:List UInt8):Prop where
 le:m≤n0 / 256
 eq:y=tilesQ wd.toNat (chunk ls) m++rest
 no:m < n0 / 256→8207≤rest.length→TakeNo wd.toNat m (rest.take 8207)
section
variable {wd wd' : Int} {ls : List Dg} {n0 : Nat}
theorem tq_ch {m:Nat} (hn:n0≤ls.length) (hm:m≤n0 / 256):(tilesQ wd.toNat (chunk ls) m).length=8207 * m:=tilesQ_len _ _ _ fun j hj=>chunk_len (by omega)
theorem spl_whole (hn:n0≤ls.length):∃ m r,Spl wd ls n0 (tqF wd ls) m r:=by
 obtain ⟨r,hr⟩:=tq_cut wd.toNat (chunk ls) (show n0 / 256≤ls.length / 256 by omega)
 exact ⟨n0 / 256,r,Nat.le_refl _,hr,fun q=>absurd q (Nat.lt_irrefl _)⟩
theorem spl_take (hn:n0≤ls.length) (c:Nat):∃ m r,Spl wd ls n0 ((tqF wd ls).take c) m r:=by
 obtain ⟨m,hm⟩:∃ m,m=min (c / 8207) (n0 / 256):=⟨_,rfl⟩
 obtain ⟨r,hr⟩:=tq_cut wd.toNat (chunk ls) (show m≤ls.length / 256 by omega)
 have hl:=tq_ch (wd:=wd) hn (show m≤n0 / 256 by omega)
 refine ⟨m,r.take (c - 8207 * m),by omega,?_,fun q1 q2=>?_⟩
 · show (tilesQ wd.toNat (chunk ls) (ls.length / 256)).take c=_
   rw [hr,List.take_append,hl,List.take_of_length_le (by rw [hl];omega)]
 · rw [List.length_take] at q2;omega
theorem spl_flip (hn:n0≤ls.length) (hj:ls.length≤2000) (hw:1≤wd∧wd≤32) (q:Nat) (c c':UInt8) (hq:(tqF wd ls)[q]?=some c) (hc:c ≠ c'):∃ m r,Spl wd ls n0 ((tqF wd ls).set q c') m r:=by
 obtain ⟨m,hm⟩:∃ m,m=min (q / 8207) (n0 / 256):=⟨_,rfl⟩
 obtain ⟨r,hr⟩:=tq_cut wd.toNat (chunk ls) (show m≤ls.length / 256 by omega)
 have hl:=tq_ch (wd:=wd) hn (show m≤n0 / 256 by omega)
 have hx:tqF wd ls=tilesQ wd.toNat (chunk ls) m++r:=hr
 have hql:8207 * m≤q:=by omega
 refine ⟨m,r.set (q - 8207 * m) c',by omega,?_,fun q1 q2=>?_⟩
 · rw [hx,List.set_append,if_neg (by rw [hl];omega),hl]
 · have hmq:m=q / 8207:=by omega
   have hcl:(chunk ls m).length=256:=chunk_len (by omega)
   have ht:=tilesQ_at wd.toNat (chunk ls) [] (show m < ls.length / 256 by omega) fun j hj=>chunk_len hj
   rw [List.append_nil,hr,List.drop_left' hl] at ht
   have hrl:r[q - 8207 * m]?=some c:=by
    rw [hx,List.getElem?_append_right (by rw [hl];exact hql),hl] at hq
    exact hq
   have hs:(r.set (q - 8207 * m) c').take 8207=(tileP wd.toNat m (chunk ls m)).set (q - 8207 * m) c':=by rw [List.take_set,ht]
   rw [hs]
   refine take_no _ _ (by omega) (by omega) _ (by rw [List.length_set,tileP_len,hcl]) (tile_bad _ _ _ hcl _ c c' ?_ hc)
   rw [← ht,List.getElem?_take,if_pos (by omega)]
   exact hrl
theorem spl_wide (hn:n0≤ls.length) (hj:ls.length≤2000) (hw:1≤wd∧wd≤32) (hw':1≤wd'∧wd'≤32):∃ m r,Spl wd' ls n0 (tqF wd ls) m r:=by
 by_cases e:wd'=wd
 · rw [e];exact spl_whole hn
 · refine ⟨0,tqF wd ls,Nat.zero_le _,rfl,fun q1 q2=>?_⟩
   have ht:=tilesQ_at wd.toNat (chunk ls) [] (show 0 < ls.length / 256 by omega) fun j hj=>chunk_len hj
   rw [List.append_nil] at ht
   have ht:(tqF wd ls).take 8207=tileP wd.toNat 0 (chunk ls 0):=ht
   rw [ht]
   refine take_no _ _ (by omega) (by omega) _ (by rw [tileP_len,chunk_len (by omega)]) ?_
   rintro ⟨-,h2,-⟩
   rw [tile_wd,valN_be 1 _ (by omega)] at h2
   omega
end
theorem tls_take (T:TT) {m:Nat} (hm:m≤T.L.length / 256):(T.tls.take m).flatten=tilesQ T.wd.toNat (chunk T.L) m:=by
 unfold TT.tls tilesQ
 rw [← List.map_take,List.take_range,Nat.min_eq_left hm]
end
section
open Go.Maps Go.WideMaps Go.ChangeMaps
theorem wi_nat (x:Int) (lo hi:Nat) (h:lo≤hi):∃ k:Nat,(k:Int)=wiP x lo hi∧lo≤k∧k≤hi:=by
 have:=wiP_le x lo hi (by omega)
 exact ⟨(wiP x lo hi).toNat,by omega,by omega,by omega⟩
set_option maxHeartbeats 16000000
end
section
open Go.Maps Go.WideMaps Go.ChangeMaps
noncomputable def tc0:Code:=Tryz.f6.body.getD .skip
noncomputable def tcX:Code:=inBlock (headSeq (dropSeq 1 ((Tryz.f6.body.bind firstLoop).getD .skip)))
structure RC (W w:World) (gl n:Nat) (wd:Int) (ls:List Dg) (ak:Option Addr) (xl ck:Nat) (size old:Nat) (iI:Int):Prop where
 hb:Below W.heap.size W w
 ds:DS w (some ⟨gl,0,none⟩) n n ls
 gls:gl < w.heap.size
 ll:ls.length=n
 n2:n≤2000
 wdb:1≤wd∧wd≤32
 xo:w.ownsRow 0 5 1 (.slice ak xl ck) xl ((tqF wd ls).map b8)
 sz:size≤n
 os:old≤size
 hi:0 < size→∃ i:Nat,iI=(i:Int)∧i < size
 tb:HalfTab W∧RoundTab W∧TabAt 1 Lib.deBruijn64tab W∧4≤W.heap.size
section
variable {W w : World} {gl n : Nat} {wd : Int} {ls : List Dg} {ak : Option Addr} {xl ck size old : Nat} {iI : Int}
theorem RC.below {w':World} (h:RC W w gl n wd ls ak xl ck size old iI) (hb:Below w.heap.size w w'):RC W w' gl n wd ls ak xl ck size old iI :=
 ⟨h.hb.trans (hb.mono h.hb.size),RS.below h.ds hb,Nat.lt_of_lt_of_le h.gls hb.size,h.ll,h.n2,h.wdb,own_below h.xo hb,h.sz,h.os,h.hi,h.tb⟩
theorem RC.xlen (h:RC W w gl n wd ls ak xl ck size old iI):(tqF wd ls).length=xl∧xl≤60000:=by
 have:(tqF wd ls).length=xl:=by have:=h.xo.1;simpa using this
 refine ⟨this,?_⟩
 rw [← this,tqF_len,h.ll]
 have:=h.n2
 omega
theorem RC.xr (h:RC W w gl n wd ls ak xl ck size old iI):R8 w ak xl ck (tqF wd ls):=R8.of_owns h.xo (by have:=h.xlen;omega)
end
def turn (v:UInt8) (k:Nat):UInt8:=v ^^^ (1 <<< UInt8.ofNat k)
theorem turn_ne:∀ (v:UInt8) (k:Fin 8),v ≠ turn v k.val:=by
 intro v k e
 have h1:∀ k:Fin 8,(1 <<< UInt8.ofNat k.val:UInt8) ≠ 0:=by decide
 have h2:v ^^^ v=v ^^^ (v ^^^ (1 <<< UInt8.ofNat k.val)):=congrArg (v ^^^ ·) e
 rw [UInt8.xor_self,← UInt8.xor_assoc,UInt8.xor_self,UInt8.zero_xor] at h2
 exact h1 k h2.symm
theorem turn_all:∀ (v:Fin 256) (k:Fin 8),bits .xor .u8 (v.val:Int) (IntKind.u8.wrap (2 ^ k.val))=((turn (UInt8.ofNat v.val) k.val).toNat:Int):=by decide +kernel
theorem turn_int (v:UInt8) (k:Nat) (hk:k≤7):bits .xor .u8 (v.toNat:Int) (IntKind.u8.wrap (2 ^ min (IntKind.u64.wrap (k:Int)).toNat 8))=((turn v k).toNat:Int):=by
 have h1:IntKind.u64.wrap (k:Int)=(k:Int):=by simp [IntKind.wrap,IntKind.bits,IntKind.signed];omega
 rw [h1,show min ((k:Int)).toNat 8=k by omega]
 have:=turn_all ⟨v.toNat,v.toNat_lt⟩ ⟨k,by omega⟩
 simpa using this
structure Spoilt (ls:List Dg) (wd2:Int) (y:List UInt8):Prop where
 le:y.length≤60000
 wb:1≤wd2∧wd2≤32
 ok:∀ n0,n0≤ls.length→∃ m r,Spl wd2 ls n0 y m r
set_option maxHeartbeats 16000000
theorem cache_copy (W wr:World) (gl n:Nat) (wd:Int) (ls:List Dg) (ak:Option Addr) (xl ck size old:Nat) (iI kI:Int) (h:RC W wr gl n wd ls ak xl ck size old iI) (n2 n3 n4 n5 n6:Int) (u0 yP yQ yR yS yT yU yV yW yX yY yZ zA zB zC zD zE zF zG zH zI zJ zK zL zM zN zO zP zQ zR zS zT zU zV zW zX zY zZ aA aB aC aD aE aF aG aH aI aJ aK aL aM aN aO aP aQ aR aS aT aU aV aW aX aY aZ bA bB bC bD bE bF bG bH bI bJ bK bL bM bN bO bP bQ bR bS bT bU bV bW uA uB uC uD uE uF uG uH uI uJ uK uL uM uN uO uP uQ uR uS uT uU uV uW uX uY uZ vA vB vC vD vE vF vG vH vI vJ vK vL vM vN vO vP vQ vR vS vT vU vV vW vX vY vZ qA qB qC qD qE qF qG qH qI qJ qK qL qM qN qO qP qQ qR qS qT qU qV qW qX qY qZ jA jB jC jD jE jF jG jH jI jJ jK jL jM jN jO jP jQ jR jS jT jU jV jW jX jY jZ yA yB yC yD yE yF yG yH yI yJ yK yL yM yN yO:Value) (K:Act→World→Prop) (R:Exit→Act→World→Prop)
 (hK:∀ (yZ zC zF zG uG uH uI uJ uK uL uM uN uO uP uQ uR uS uT uU uV uW uX uY uZ vA vB vC vD vE vF vG vH vI vJ vK vL vM vN vO vP vQ vR vS vT vU vV vW vX vY vZ qA qB qC qD qE qF qG qH qI qJ qK qL qM qN qO qP qQ qR qS qT qU qV qW qX qY qZ jA jB jC jD jE jF jG jH jI jJ jK jL jM jN jO jP jQ jR jS jT jU jV jW jX jY jZ yA yB yC yD yE yF yG yH yI yJ yK yL yM yN yO:Value) (a4:Option Addr) (c4:Nat) (w':World),Below wr.heap.size wr w'→w'.ownsRow wr.heap.size 5 1 (.slice a4 xl c4) xl ((tqF wd ls).map b8)→Code.wp Tryz.prog (dropSeq 2 tcX) R ⟨#[u0,.int .i64 (n:Int),.int .i64 n2,.int .i64 n3,.int .i64 n4,.int .i64 n5,.int .i64 n6,.int .i64 (size:Int),.int .i64 (old:Int),.int .i64 iI,yP,yQ,yR,yS,yT,yU,yV,yW,yX,yY,yZ,.slice (some ⟨gl,0,none⟩) n n,.int .i64 wd,zA,zB,zC,.slice ak xl ck,.int .i64 kI,.slice a4 xl c4,.int .i64 wd,zF,zG,zH,zI,zJ,zK,zL,zM,zN,zO,zP,zQ,zR,zS,zT,zU,zV,zW,zX,zY,zZ,aA,aB,aC,aD,aE,aF,aG,aH,aI,aJ,aK,aL,aM,aN,aO,aP,aQ,aR,aS,aT,aU,aV,aW,aX,aY,aZ,bA,bB,bC,bD,bE,bF,bG,bH,bI,bJ,bK,bL,bM,bN,bO,bP,bQ,bR,bS,bT,bU,bV,bW,uA,uB,uC,uD,uE,uF,uG,uH,uI,uJ,uK,uL,uM,uN,uO,uP,uQ,uR,uS,uT,uU,uV,uW,uX,uY,uZ,vA,vB,vC,vD,vE,vF,vG,vH,vI,vJ,vK,vL,vM,vN,vO,vP,vQ,vR,vS,vT,vU,vV,vW,vX,vY,vZ,qA,qB,qC,qD,qE,qF,qG,qH,qI,qJ,qK,qL,qM,qN,qO,qP,qQ,qR,qS,qT,qU,qV,qW,qX,qY,qZ,jA,jB,jC,jD,jE,jF,jG,jH,jI,jJ,jK,jL,jM,jN,jO,jP,jQ,jR,jS,jT,jU,jV,jW,jX,jY,jZ,yA,yB,yC,yD,yE,yF,yG,yH,yI,yJ,yK,yL,yM,yN,yO],[]⟩ w') :
 Code.wp Tryz.prog tcX R ⟨#[u0,.int .i64 (n:Int),.int .i64 n2,.int .i64 n3,.int .i64 n4,.int .i64 n5,.int .i64 n6,.int .i64 (size:Int),.int .i64 (old:Int),.int .i64 iI,yP,yQ,yR,yS,yT,yU,yV,yW,yX,yY,yZ,.slice (some ⟨gl,0,none⟩) n n,.int .i64 wd,zA,zB,zC,.slice ak xl ck,.int .i64 kI,zD,zE,zF,zG,zH,zI,zJ,zK,zL,zM,zN,zO,zP,zQ,zR,zS,zT,zU,zV,zW,zX,zY,zZ,aA,aB,aC,aD,aE,aF,aG,aH,aI,aJ,aK,aL,aM,aN,aO,aP,aQ,aR,aS,aT,aU,aV,aW,aX,aY,aZ,bA,bB,bC,bD,bE,bF,bG,bH,bI,bJ,bK,bL,bM,bN,bO,bP,bQ,bR,bS,bT,bU,bV,bW,uA,uB,uC,uD,uE,uF,uG,uH,uI,uJ,uK,uL,uM,uN,uO,uP,uQ,uR,uS,uT,uU,uV,uW,uX,uY,uZ,vA,vB,vC,vD,vE,vF,vG,vH,vI,vJ,vK,vL,vM,vN,vO,vP,vQ,vR,vS,vT,vU,vV,vW,vX,vY,vZ,qA,qB,qC,qD,qE,qF,qG,qH,qI,qJ,qK,qL,qM,qN,qO,qP,qQ,qR,qS,qT,qU,qV,qW,qX,qY,qZ,jA,jB,jC,jD,jE,jF,jG,jH,jI,jJ,jK,jL,jM,jN,jO,jP,jQ,jR,jS,jT,jU,jV,jW,jX,jY,jZ,yA,yB,yC,yD,yE,yF,yG,yH,yI,yJ,yK,yL,yM,yN,yO],[]⟩ wr:=by
 have HX:=hid h.xr
 have HL:=hid h.xlen
 have HKK:=hid hK
 clear h hK
 refine wp_two_k (c:=tcX) ⟨_,_,rfl⟩ fun K hK=>?_
 have HK:=hid hK
 clear hK
 conv=>arg 2;whnf
 go_wp2_with (at_builtin;refine L_append8 rfl _ _ 53 (by rfl) sl50 wr.heap.size (.slice none 0 0) 0 [] rfl (World.ownsRow_nil _ _ _ _) ak xl ck _ rfl HX.out (by have:=HL.out;omega) (by unfold maxLen;have:=HL.out;omega) (Nat.le_refl _) ?_;intro a4 c4 w4 ho4 hg4 hat4)
 rw [Nat.zero_add,List.nil_append] at ho4
 have hb4:Below wr.heap.size wr w4:=(Below.refl _ _).grown hg4 (Nat.le_refl _) (fun k hk=>by cases hk)
 have HO4:=hid ho4;have HB4:=hid hb4
 clear ho4 hg4 hat4 hb4
 refine HK.out _ _ ?_
 clear HK K
 refine wp_two_k (c:=dropSeq 1 tcX) ⟨_,_,rfl⟩ fun K hK=>?_
 have HK:=hid hK
 clear hK
 conv=>arg 2;whnf
 go_wp2_with fail
 refine HK.out _ _ ?_
 clear HK K
 rw [dropSeq_succ]
 exact HKK.out _ _ _ _ _ _ _ _ _ _ _ _ _ _ _ _ _ _ _ _ _ _ _ _ _ _ _ _ _ _ _ _ _ _ _ _ _ _ _ _ _ _ _ _ _ _ _ _ _ _ _ _ _ _ _ _ _ _ _ _ _ _ _ _ _ _ _ _ _ _ _ _ _ _ _ _ _ _ _ _ _ _ _ _ _ _ _ _ _ _ _ _ _ _ _ _ _ _ _ _ _ _ _ _ _ _ _ _ _ _ _ _ _ _ _ _ _  a4 c4 w4 HB4.out HO4.out
theorem cache_spoil (W w0 wr:World) (gl n:Nat) (wd:Int) (ls:List Dg) (ak:Option Addr) (xl ck size old:Nat) (iI kI:Int) (hk:kI=0∨kI=1∨kI=2∨kI=3) (h:RC W w0 gl n wd ls ak xl ck size old iI) (hb0:Below w0.heap.size w0 wr) (n2 n3 n4 n5 n6:Int) (hb4:-9223372036854775808≤n4∧n4≤9223372036854775807) (hb5:-9223372036854775808≤n5∧n5≤9223372036854775807) (hb6:-9223372036854775808≤n6∧n6≤9223372036854775807) (hb3:-9223372036854775808≤n3∧n3≤9223372036854775807) (a4:Option Addr) (c4:Nat) (ho:wr.ownsRow w0.heap.size 5 1 (.slice a4 xl c4) xl ((tqF wd ls).map b8)) (u0 yP yQ yR yS yT yU yV yW yX yY yZ zA zB zC zF zG zH zI zJ zK zL zM zN zO zP zQ zR zS zT zU zV zW zX zY zZ aA aB aC aD aE aF aG aH aI aJ aK aL aM aN aO aP aQ aR aS aT aU aV aW aX aY aZ bA bB bC bD bE bF bG bH bI bJ bK bL bM bN bO bP bQ bR bS bT bU bV bW uA uB uC uD uE uF uG uH uI uJ uK uL uM uN uO uP uQ uR uS uT uU uV uW uX uY uZ vA vB vC vD vE vF vG vH vI vJ vK vL vM vN vO vP vQ vR vS vT vU vV vW vX vY vZ qA qB qC qD qE qF qG qH qI qJ qK qL qM qN qO qP qQ qR qS qT qU qV qW qX qY qZ jA jB jC jD jE jF jG jH jI jJ jK jL jM jN jO jP jQ jR jS jT jU jV jW jX jY jZ yA yB yC yD yE yF yG yH yI yJ yK yL yM yN yO:Value) (K:Act→World→Prop) (R:Exit→Act→World→Prop) (hR:∀ c a a' w,R (.panic c) a w→a.defers=a'.defers→R (.panic c) a' w)
 (hK:∀ (yZ zC zF zG uG uH uI uJ uK uL uM uN uO uP uQ uR uS uT uU uV uW uX uY uZ vA vB vC vD vE vF vG vH vI vJ vK vL vM vN vO vP vQ vR vS vT vU vV vW vX vY vZ qA qB qC qD qE qF qG qH qI qJ qK qL qM qN qO qP qQ qR qS qT qU qV qW qX qY qZ jA jB jC jD jE jF jG jH jI jJ jK jL jM jN jO jP jQ jR jS jT jU jV jW jX jY jZ yA yB yC yD yE yF yG yH yI yJ yK yL yM yN yO:Value) (wd2:Int) (y:List UInt8) (a2:Option Addr) (yl c2:Nat) (w':World),y.length=yl→Below w0.heap.size w0 w'→w'.ownsRow w0.heap.size 5 1 (.slice a2 yl c2) yl (y.map b8)→Spoilt ls wd2 y→Code.wp Tryz.prog (dropSeq 3 tcX) R ⟨#[u0,.int .i64 (n:Int),.int .i64 n2,.int .i64 n3,.int .i64 n4,.int .i64 n5,.int .i64 n6,.int .i64 (size:Int),.int .i64 (old:Int),.int .i64 iI,yP,yQ,yR,yS,yT,yU,yV,yW,yX,yY,yZ,.slice (some ⟨gl,0,none⟩) n n,.int .i64 wd,zA,zB,zC,.slice ak xl ck,.int .i64 kI,.slice a2 yl c2,.int .i64 wd2,zF,zG,zH,zI,zJ,zK,zL,zM,zN,zO,zP,zQ,zR,zS,zT,zU,zV,zW,zX,zY,zZ,aA,aB,aC,aD,aE,aF,aG,aH,aI,aJ,aK,aL,aM,aN,aO,aP,aQ,aR,aS,aT,aU,aV,aW,aX,aY,aZ,bA,bB,bC,bD,bE,bF,bG,bH,bI,bJ,bK,bL,bM,bN,bO,bP,bQ,bR,bS,bT,bU,bV,bW,uA,uB,uC,uD,uE,uF,uG,uH,uI,uJ,uK,uL,uM,uN,uO,uP,uQ,uR,uS,uT,uU,uV,uW,uX,uY,uZ,vA,vB,vC,vD,vE,vF,vG,vH,vI,vJ,vK,vL,vM,vN,vO,vP,vQ,vR,vS,vT,vU,vV,vW,vX,vY,vZ,qA,qB,qC,qD,qE,qF,qG,qH,qI,qJ,qK,qL,qM,qN,qO,qP,qQ,qR,qS,qT,qU,qV,qW,qX,qY,qZ,jA,jB,jC,jD,jE,jF,jG,jH,jI,jJ,jK,jL,jM,jN,jO,jP,jQ,jR,jS,jT,jU,jV,jW,jX,jY,jZ,yA,yB,yC,yD,yE,yF,yG,yH,yI,yJ,yK,yL,yM,yN,yO],[]⟩ w') :
 Code.wp Tryz.prog (dropSeq 2 tcX) R ⟨#[u0,.int .i64 (n:Int),.int .i64 n2,.int .i64 n3,.int .i64 n4,.int .i64 n5,.int .i64 n6,.int .i64 (size:Int),.int .i64 (old:Int),.int .i64 iI,yP,yQ,yR,yS,yT,yU,yV,yW,yX,yY,yZ,.slice (some ⟨gl,0,none⟩) n n,.int .i64 wd,zA,zB,zC,.slice ak xl ck,.int .i64 kI,.slice a4 xl c4,.int .i64 wd,zF,zG,zH,zI,zJ,zK,zL,zM,zN,zO,zP,zQ,zR,zS,zT,zU,zV,zW,zX,zY,zZ,aA,aB,aC,aD,aE,aF,aG,aH,aI,aJ,aK,aL,aM,aN,aO,aP,aQ,aR,aS,aT,aU,aV,aW,aX,aY,aZ,bA,bB,bC,bD,bE,bF,bG,bH,bI,bJ,bK,bL,bM,bN,bO,bP,bQ,bR,bS,bT,bU,bV,bW,uA,uB,uC,uD,uE,uF,uG,uH,uI,uJ,uK,uL,uM,uN,uO,uP,uQ,uR,uS,uT,uU,uV,uW,uX,uY,uZ,vA,vB,vC,vD,vE,vF,vG,vH,vI,vJ,vK,vL,vM,vN,vO,vP,vQ,vR,vS,vT,vU,vV,vW,vX,vY,vZ,qA,qB,qC,qD,qE,qF,qG,qH,qI,qJ,qK,qL,qM,qN,qO,qP,qQ,qR,qS,qT,qU,qV,qW,qX,qY,qZ,jA,jB,jC,jD,jE,jF,jG,jH,jI,jJ,jK,jL,jM,jN,jO,jP,jQ,jR,jS,jT,jU,jV,jW,jX,jY,jZ,yA,yB,yC,yD,yE,yF,yG,yH,yI,yJ,yK,yL,yM,yN,yO],[]⟩ wr:=by
 have HL:=hid h.xlen
 have HKK:=hid hK
 have HO:=hid ho
 have HB0:=hid hb0
 have hw:1≤wd∧wd≤32:=h.wdb
 have HSW:=hid (show Spoilt ls wd (tqF wd ls) from ⟨by have:=h.xlen;omega,hw,fun n0 hn=>spl_whole hn⟩)
 have HST:=hid (fun c=>show Spoilt ls wd ((tqF wd ls).take c) from ⟨by have:=h.xlen;rw [List.length_take];omega,hw,fun n0 hn=>spl_take hn c⟩)
 have HSF:=hid (fun q c c' (hq:(tqF wd ls)[q]?=some c) (hc:c ≠ c')=>show Spoilt ls wd ((tqF wd ls).set q c') from ⟨by have:=h.xlen;rw [List.length_set];omega,hw,fun n0 hn=>spl_flip hn (by have:=h.ll;have:=h.n2;omega) hw q c c' hq hc⟩)
 have HSD:=hid (fun wd2 (hw2:1≤wd2∧wd2≤32)=>show Spoilt ls wd2 (tqF wd ls) from ⟨by have:=h.xlen;omega,hw2,fun n0 hn=>spl_wide hn (by have:=h.ll;have:=h.n2;omega) hw hw2⟩)
 have hxl:xl≤60000:=h.xlen.2
 have hx1:(tqF wd ls).length=xl:=h.xlen.1
 have HXL:=hid hxl
 clear h hK ho hb0 hw
 rcases hk with rfl | rfl | rfl | rfl
 · clear hxl
   refine wp_two_k (c:=dropSeq 2 tcX) ⟨_,_,rfl⟩ fun K hK=>?_
   have HK:=hid hK
   clear hK
   conv=>arg 2;whnf
   go_wp2_with fail
   refine HK.out _ _ ?_
   clear HK K
   rw [dropSeq_succ]
   exact HKK.out _ _ _ _ _ _ _ _ _ _ _ _ _ _ _ _ _ _ _ _ _ _ _ _ _ _ _ _ _ _ _ _ _ _ _ _ _ _ _ _ _ _ _ _ _ _ _ _ _ _ _ _ _ _ _ _ _ _ _ _ _ _ _ _ _ _ _ _ _ _ _ _ _ _ _ _ _ _ _ _ _ _ _ _ _ _ _ _ _ _ _ _ _ _ _ _ _ _ _ _ _ _ _ _ _ _ _ _ _ _ _ _ _ _ _ _ _  wd (tqF wd ls) a4 xl c4 wr hx1 HB0.out HO.out HSW.out
 · obtain ⟨c,hc,hc1,hc2⟩:=wi_nat n4 0 xl (Nat.zero_le _)
   have W4:=hid (fun w=>within_any w n4 0 (xl:Int) hb4.1 hb4.2 (by decide) (by omega) (by omega))
   rw [← show (c:Int)=wiP n4 0 xl from hc] at W4
   have hcc:c≤c4:=by
    obtain ⟨-,q⟩:=HO.out
    rcases q with ⟨e1,e2⟩ | ⟨g,cap,cur,e1,e2,e3,e4,-⟩
    · omega
    · cases e1;omega
   have hsl:=fun wx=>slice_to8 wx a4 xl c4 c hcc
   have HC2:=hid hc2
   clear hxl hc hc1 hc2 hcc
   refine wp_two_k (c:=dropSeq 2 tcX) ⟨_,_,rfl⟩ fun K hK=>?_
   have HK:=hid hK
   clear hK
   conv=>arg 2;whnf
   go_wp2_with (go_at_call 8;(with_reducible refine (W4.out _).mono ?_);rintro e wx ⟨rfl,hw⟩;have hw:=hw.symm;subst hw)
   refine HK.out _ _ ?_
   clear HK K
   rw [dropSeq_succ]
   have ho2:=own_takeB HO.out HC2.out
   rw [Nat.mul_one,← List.map_take] at ho2
   have hl2:((tqF wd ls).take c).length=c:=by rw [List.length_take];have:=HC2.out;omega
   have HS:=HST.out c
   exact HKK.out _ _ _ _ _ _ _ _ _ _ _ _ _ _ _ _ _ _ _ _ _ _ _ _ _ _ _ _ _ _ _ _ _ _ _ _ _ _ _ _ _ _ _ _ _ _ _ _ _ _ _ _ _ _ _ _ _ _ _ _ _ _ _ _ _ _ _ _ _ _ _ _ _ _ _ _ _ _ _ _ _ _ _ _ _ _ _ _ _ _ _ _ _ _ _ _ _ _ _ _ _ _ _ _ _ _ _ _ _ _ _ _ _ _ _ _ _  wd _ a4 c c4 wr hl2 HB0.out ho2 HS
 · by_cases h0:xl=0
   · have h9:decide ((xl:Int) > 0)=false:=by simp;omega
     have h8:decide (0 < xl)=false:=by simp;omega
     clear hxl h0
     refine wp_two_k (c:=dropSeq 2 tcX) ⟨_,_,rfl⟩ fun K hK=>?_
     have HK:=hid hK
     clear hK
     conv=>arg 2;whnf
     go_wp2_with fail
     refine HK.out _ _ ?_
     clear HK K
     rw [dropSeq_succ]
     exact HKK.out _ _ _ _ _ _ _ _ _ _ _ _ _ _ _ _ _ _ _ _ _ _ _ _ _ _ _ _ _ _ _ _ _ _ _ _ _ _ _ _ _ _ _ _ _ _ _ _ _ _ _ _ _ _ _ _ _ _ _ _ _ _ _ _ _ _ _ _ _ _ _ _ _ _ _ _ _ _ _ _ _ _ _ _ _ _ _ _ _ _ _ _ _ _ _ _ _ _ _ _ _ _ _ _ _ _ _ _ _ _ _ _ _ _ _ _ _  wd (tqF wd ls) a4 xl c4 wr hx1 HB0.out HO.out HSW.out
   · obtain ⟨q,hq,hq1,hq2⟩:=wi_nat n5 0 (xl - 1) (by omega)
     obtain ⟨kb,hkb,hkb1,hkb2⟩:=wi_nat n6 0 7 (by decide)
     have W5:=hid (fun w=>within_any w n5 0 (((xl - 1:Nat):Nat):Int) hb5.1 hb5.2 (by decide) (by omega) (by omega))
     have W6:=hid (fun w=>within_any w n6 0 7 hb6.1 hb6.2 (by decide) (by decide) (by decide))
     rw [← show (q:Int)=wiP n5 0 ((xl - 1:Nat):Nat) from hq,show (((xl - 1:Nat):Nat):Int)=(xl:Int) - 1 by omega] at W5
     rw [← show (kb:Int)=wiP n6 0 7 from hkb] at W6
     obtain ⟨v,hv⟩:∃ v,(tqF wd ls)[q]?=some v:=⟨_,List.getElem?_eq_getElem (by omega)⟩
     obtain ⟨a0,c0,e0,hg⟩:=owns_shape HO.out
     cases e0
     obtain ⟨g,rfl,hg1,hg2⟩:=hg (by omega)
     have hcell:wr.cell? ⟨g,q,none⟩=some (.int .u8 (v.toNat:Int)):=by
      have:=HO.out.cells (g:=g) rfl q (.int .u8 (v.toNat:Int)) (by rw [List.getElem?_map,hv];rfl)
      rw [Addr.add,Nat.zero_add] at this
      split at this
      · rename_i e;rw [e];exact this
      · exact this
     obtain ⟨v',hv'⟩:∃ v',v'=turn v kb:=⟨_,rfl⟩
     have hne:v ≠ v':=by rw [hv'];exact turn_ne v ⟨kb,by omega⟩
     obtain ⟨ho2,hgr2⟩:=HO.out.stored q (.int .u8 (v'.toNat:Int))
     have HS:=hid (HSF.out q v v' hv hne)
     have h9:decide ((xl:Int) > 0)=true:=by simp;omega
     have h8:decide (0 < xl)=true:=by simp;omega
     have hx64:wrap64 ((xl:Int) - 1)=(xl:Int) - 1:=wrap64_small (by omega) (by omega)
     have h7:(q < xl)=True:=by simp;omega
     have hxi:IntKind.i64.wrap ((xl:Int) - 1)=(xl:Int) - 1:=IntWalk.i64_in _ (by omega)
     clear hxl hq hq1 hkb hkb1
     have hd1:wr.drew.cell? ⟨g,q,none⟩=some (.int .u8 (v.toNat:Int)):=hcell
     have hd2:wr.drew.frozen? ⟨g,q,none⟩=false:=HO.out.frozenAt q
     have hbs:Below w0.heap.size w0 ((wr.setCell ⟨g,q,none⟩ (.int .u8 (v'.toNat:Int))).drew):=below_drewN (HB0.out.grown hgr2 HB0.out.size (fun k hk=>by cases hk;exact hg1)) 1
     have hyl:((tqF wd ls).set q v').length=xl:=by rw [List.length_set];exact hx1
     have ho2:(wr.setCell ⟨g,q,none⟩ (.int .u8 (v'.toNat:Int))).drew.ownsRow w0.heap.size 5 1 (.slice (some ⟨g,0,none⟩) xl c4) xl (((tqF wd ls).set q v').map b8):=by
      rw [List.map_set];exact ho2
     refine wp_two_k (c:=dropSeq 2 tcX) ⟨_,_,rfl⟩ fun K hK=>?_
     have HK:=hid hK
     clear hK
     conv=>arg 2;whnf
     go_upto_region 23 with (fail)
     refine wp_region_held_drew (S:=fun _=>True) (by kernel_rfl) trivial (fun hHeld=>?_)
     apply wpTR hR 0
     apply wpTR hR 1
     apply wpTR hR 2
     apply wpTR hR 3
     apply wpTR hR 4
     apply wpTR hR 8
     apply wpR 5
     intro K' hK'
     go_simp
     (with_reducible refine (W5.out _).mono ?_)
     rintro e wx ⟨rfl,hw⟩
     have hw:=hw.symm
     subst hw
     apply bk hK'
     · trivial
     intro hHeld
     clear hK' K'
     apply wpTR hR 6
     refine wpAnyH_ready (rs:=[7,9]) (by kernel_rfl) (by simp) ?_
     refine AllReadyH.cons (o:=_) rfl (fun K' hK'=>?_) (AllReadyH.cons (o:=_) rfl (fun K' hK'=>?_) AllReadyH.nil)
     · go_simp
       apply bk hK'
       · trivial
       intro hHeld
       clear hK' K'
       apply wpR 9
       intro K' hK'
       go_simp
       (with_reducible refine (W6.out _).mono ?_)
       rintro e wx ⟨rfl,hw⟩
       have hw:=hw.symm
       subst hw
       apply bk hK'
       · trivial
       intro hHeld
       clear hK' K'
       apply wpTR hR 10
       apply wpTR hR 11
       apply wpTR hR 12
       apply wpTR hR 13
       apply wpR 14
       intro K' hK'
       go_simp
       apply bk hK'
       · trivial
       intro hHeld
       clear hK' K'
       refine wpAnyH_done (by kernel_rfl) ?_ _
       rw [turn_int v kb hkb2,← hv']
       refine HK.out _ _ ?_
       clear HK K
       rw [dropSeq_succ]
       exact HKK.out _ _ _ _ _ _ _ _ _ _ _ _ _ _ _ _ _ _ _ _ _ _ _ _ _ _ _ _ _ _ _ _ _ _ _ _ _ _ _ _ _ _ _ _ _ _ _ _ _ _ _ _ _ _ _ _ _ _ _ _ _ _ _ _ _ _ _ _ _ _ _ _ _ _ _ _ _ _ _ _ _ _ _ _ _ _ _ _ _ _ _ _ _ _ _ _ _ _ _ _ _ _ _ _ _ _ _ _ _ _ _ _ _ _ _ _ _  wd _ _ xl c4 _ hyl hbs ho2 HS.out
     · go_simp
       (with_reducible refine (W6.out _).mono ?_)
       rintro e wx ⟨rfl,hw⟩
       have hw:=hw.symm
       subst hw
       apply bk hK'
       · trivial
       intro hHeld
       clear hK' K'
       apply wpTR hR 10
       apply wpTR hR 11
       apply wpR 7
       intro K' hK'
       go_simp
       apply bk hK'
       · trivial
       intro hHeld
       clear hK' K'
       apply wpTR hR 12
       apply wpTR hR 13
       apply wpR 14
       intro K' hK'
       go_simp
       apply bk hK'
       · trivial
       intro hHeld
       clear hK' K'
       refine wpAnyH_done (by kernel_rfl) ?_ _
       rw [turn_int v kb hkb2,← hv']
       refine HK.out _ _ ?_
       clear HK K
       rw [dropSeq_succ]
       exact HKK.out _ _ _ _ _ _ _ _ _ _ _ _ _ _ _ _ _ _ _ _ _ _ _ _ _ _ _ _ _ _ _ _ _ _ _ _ _ _ _ _ _ _ _ _ _ _ _ _ _ _ _ _ _ _ _ _ _ _ _ _ _ _ _ _ _ _ _ _ _ _ _ _ _ _ _ _ _ _ _ _ _ _ _ _ _ _ _ _ _ _ _ _ _ _ _ _ _ _ _ _ _ _ _ _ _ _ _ _ _ _ _ _ _ _ _ _ _  wd _ _ xl c4 _ hyl hbs ho2 HS.out
 · obtain ⟨wd2,hwd2⟩:∃ v,v=wiP (wrap64 (n3+1)) 1 32:=⟨_,rfl⟩
   have hw2:1≤wd2∧wd2≤32:=by rw [hwd2];exact wiP_le _ 1 32 (by decide)
   have hw64:-9223372036854775808≤wrap64 (n3+1)∧wrap64 (n3+1)≤9223372036854775807:=by
    unfold wrap64;omega
   have W3:=hid (fun w=>within_any w (wrap64 (n3+1)) 1 32 hw64.1 hw64.2 (by decide) (by decide) (by decide))
   rw [← hwd2] at W3
   clear hxl hwd2 hw64
   have HW2:=hid hw2
   clear hw2
   refine wp_two_k (c:=dropSeq 2 tcX) ⟨_,_,rfl⟩ fun K hK=>?_
   have HK:=hid hK
   clear hK
   conv=>arg 2;whnf
   go_wp2_with (go_at_call 8;(with_reducible refine (W3.out _).mono ?_);rintro e wx ⟨rfl,hw⟩;have hw:=hw.symm;subst hw)
   refine HK.out _ _ ?_
   clear HK K
   rw [dropSeq_succ]
   exact HKK.out _ _ _ _ _ _ _ _ _ _ _ _ _ _ _ _ _ _ _ _ _ _ _ _ _ _ _ _ _ _ _ _ _ _ _ _ _ _ _ _ _ _ _ _ _ _ _ _ _ _ _ _ _ _ _ _ _ _ _ _ _ _ _ _ _ _ _ _ _ _ _ _ _ _ _ _ _ _ _ _ _ _ _ _ _ _ _ _ _ _ _ _ _ _ _ _ _ _ _ _ _ _ _ _ _ _ _ _ _ _ _ _ _ _ _ _ _  wd2 (tqF wd ls) a4 xl c4 wr hx1 HB0.out HO.out (HSD.out wd2 HW2.out)
end
end Go.Proofs.YtgkehahklccacaaGreatDoor
