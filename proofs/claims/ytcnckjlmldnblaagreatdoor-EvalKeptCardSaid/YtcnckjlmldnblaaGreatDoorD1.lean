import Derived.Test.YtcnckjlmldnblaaGreatDoorE27
import Derived.Test.YtcnckjlmldnblaaGreatDoorR7a
import Derived.Test.YtcnckjlmldnblaaGreatDoorR7b
import Derived.Test.YtcnckjlmldnblaaGreatDoorR6
import Derived.BigGuardPart
import Derived.IntWalk
import Derived.Handy
import Derived.OrdersHeld
import Derived.Deep.RegionHeld3
import Derived.WalkLawsBesides
import Derived.Test.YtcnckjlmldnblaaGreatDoorX1
import Derived.Test.YtcnckjlmldnblaaGreatDoorE55
namespace Go.Proofs.YtcnckjlmldnblaaGreatDoor
open Go Go.RowKit
set_option maxRecDepth 100000
set_option maxHeartbeats 4000000
set_option linter.unusedVariables false
set_option linter.unusedSimpArgs false
/-- Each kid in its turn, as the document's tree goes down. -/
def kidsL (f:Int→List Bool→Option (List Bool)):List Int→List Bool→Option (List Bool)
 | [],s=>some s
 | k :: t,s=>match f k s with
   | none=>none
   | some s'=>kidsL f t s'
/-- The document's tree: what is reached is marked. -/
def dfsR (ns:List Nd):Nat→Int→Int→List Bool→Option (List Bool)
 | 0,_,_,_=>none
 | d+1,r,b,s=>if r < 0∨b≤r then none else if s.getD r.toNat false=true then none else match ns[r.toNat]? with
   | none=>none
   | some nd=>if nd.right=true then kidsL (fun k s=>dfsR ns d k r s) nd.ks (s.set r.toNat true) else none
theorem getD_setT (s:List Bool) (i j:Nat) (h:i < s.length):(s.set i true).getD j false=true ↔ (j=i∨s.getD j false=true):=by
 rw [List.getD_eq_getElem?_getD,List.getElem?_set]
 by_cases e:i=j
 · subst e;simp [h]
 · rw [if_neg e,← List.getD_eq_getElem?_getD]
   constructor
   · exact .inr
   · rintro (h | h)
     · exact absurd h.symm e
     · exact h
/-- What stands beneath a place. -/
inductive Rch (ns:List Nd) (r:Nat):Nat→Prop
 | refl:Rch ns r r
 | step {i:Nat} {nd:Nd} {k:Int}:Rch ns r i→ns[i]?=some nd→k ∈ nd.ks→Rch ns r k.toNat
/-- Marks that are a tree's. -/
structure MidT (ns:List Nd) (q:Nat) (F:Nat→Prop):Prop where
 root:F q
 le:∀ i,F i→i≤q
 nd:∀ i,F i→∃ nd,ns[i]?=some nd∧nd.right=true∧∀ k ∈ nd.ks,0≤k∧k < (i:Int)∧F k.toNat
 u:∀ (i j:Nat) (ni nj:Nd) (a b:Nat) (k:Int),F i→F j→ns[i]?=some ni→ns[j]?=some nj→ni.ks[a]?=some k→nj.ks[b]?=some k→i=j∧a=b
section
variable {ns : List Nd} {q : Nat} {F : Nat → Prop}
theorem MidT.sub (h:MidT ns q F) {r i:Nat} (hr:F r) (hi:Rch ns r i):F i∧i≤r:=by
 induction hi with
 | refl=>exact ⟨hr,Nat.le_refl _⟩
 | step hi hn hk ih =>
   obtain ⟨nd,h1,-,h3⟩:=h.nd _ ih.1
   rw [hn] at h1
   cases h1
   have:=h3 _ hk
   exact ⟨this.2.2,by omega⟩
theorem rch_head {r:Nat} {nd:Nd} (hn:ns[r]?=some nd) {i:Nat} (hi:Rch ns r i):i=r∨∃ k ∈ nd.ks,Rch ns k.toNat i:=by
 induction hi with
 | refl=>exact .inl rfl
 | step hi hx hk ih =>
   rcases ih with rfl | ⟨k',hk',hr⟩
   · rw [hn] at hx
     cases hx
     exact .inr ⟨_,hk,.refl⟩
   · exact .inr ⟨k',hk',.step hr hx hk⟩
theorem rch_cons {r:Nat} {nd:Nd} (hn:ns[r]?=some nd) {k:Int} (hk:k ∈ nd.ks) {i:Nat} (hi:Rch ns k.toNat i):Rch ns r i:=by
 induction hi with
 | refl=>exact .step .refl hn hk
 | step _ hx hk' ih=>exact .step ih hx hk'
theorem MidT.split (h:MidT ns q F) {r:Nat} {nd:Nd} (hr:F r) (hn:ns[r]?=some nd) {a b:Nat} {ka kb:Int} (ha:nd.ks[a]?=some ka) (hb:nd.ks[b]?=some kb) {x:Nat} (hx:Rch ns ka.toNat x) (hy:Rch ns kb.toNat x):a=b:=by
 obtain ⟨nd',h1,-,h3⟩:=h.nd _ hr
 rw [hn] at h1
 cases h1
 have pa:=h3 _ (List.mem_of_getElem? ha)
 have pb:=h3 _ (List.mem_of_getElem? hb)
 generalize hz:ka.toNat=za at hx
 induction hx with
 | refl =>
   subst hz
   generalize hw:ka.toNat=y at hy
   cases hy with
   | refl=>exact (h.u r r nd nd a b ka hr hr hn hn ha (by rw [hb];congr 1;omega)).2
   | step hi hx hk =>
     rename_i i ni k
     have hs:=h.sub pb.2.2 hi
     obtain ⟨ni',g1,-,g3⟩:=h.nd _ hs.1
     rw [hx] at g1
     cases g1
     obtain ⟨c,hc⟩:=List.getElem?_of_mem hk
     have:=g3 _ hk
     have e:k=ka:=by omega
     subst e
     have:=(h.u r i nd ni a c k hr hs.1 hn hx ha hc).1
     omega
 | step hi hx hk ih =>
   rename_i i ni k
   have hs:=h.sub pa.2.2 (hz ▸ hi)
   obtain ⟨ni',g1,-,g3⟩:=h.nd _ hs.1
   rw [hx] at g1
   cases g1
   obtain ⟨c,hc⟩:=List.getElem?_of_mem hk
   have gk:=g3 _ hk
   generalize hw:k.toNat=y at hy
   cases hy with
   | refl =>
     have e:k=kb:=by omega
     subst e
     have:=(h.u r i nd ni b c k hr hs.1 hn hx hb hc).1
     omega
   | step hj hy' hk' =>
     rename_i j nj k'
     have hs':=h.sub pb.2.2 hj
     obtain ⟨nj',f1,-,f3⟩:=h.nd _ hs'.1
     rw [hy'] at f1
     cases f1
     obtain ⟨c',hc'⟩:=List.getElem?_of_mem hk'
     have fk:=f3 _ hk'
     have e:k=k':=by omega
     subst e
     have:=(h.u i j ni nj c c' k hs.1 hs'.1 hx hy' hc hc').1
     subst this
     exact ih hj
/-- Marks of a tree: the document goes through it. -/
theorem MidT.dfs (h:MidT ns q F):∀ (d r:Nat) (b:Int) (s:List Bool),F r→(r:Int) < b→r < d→q < s.length→(∀ i,Rch ns r i→s.getD i false=false) →
 ∃ s',dfsR ns d r b s=some s'∧s'.length=s.length∧∀ i,s'.getD i false=true ↔ (s.getD i false=true∨Rch ns r i)
 | 0,r,b,s,_,_,hd,_,_=>by omega
 | d+1,r,b,s,hr,hb,hd,hl,hs=>by
   obtain ⟨nd,hn,hrt,hk⟩:=h.nd r hr
   have hrq:=h.le r hr
   have key:∀ (t:List Int) (o:Nat),nd.ks.drop o=t→∀ s1:List Bool,s1.length=s.length→(∀ i,s1.getD i false=true ↔ (s.getD i false=true∨i=r∨∃ (a:Nat) (k:Int),a < o∧nd.ks[a]?=some k∧Rch ns k.toNat i)) →
    ∃ s',kidsL (fun k s=>dfsR ns d k r s) t s1=some s'∧s'.length=s.length∧∀ i,s'.getD i false=true ↔ (s.getD i false=true∨i=r∨∃ (a:Nat) (k:Int),nd.ks[a]?=some k∧Rch ns k.toNat i):=by
    intro t
    induction t with
    | nil =>
      intro o ho s1 hl1 h1
      refine ⟨s1,rfl,hl1,fun i=>(h1 i).trans ?_⟩
      have hol:nd.ks.length≤o:=by have:=congrArg List.length ho;simp at this;omega
      constructor
      · rintro (h | h | ⟨a,k,-,h⟩)
        · exact .inl h
        · exact .inr (.inl h)
        · exact .inr (.inr ⟨a,k,h⟩)
      · rintro (h | h | ⟨a,k,h⟩)
        · exact .inl h
        · exact .inr (.inl h)
        · exact .inr (.inr ⟨a,k,by have:=(List.getElem?_eq_some_iff.1 h.1).1;omega,h⟩)
    | cons k t ih =>
      intro o ho s1 hl1 h1
      have hko:nd.ks[o]?=some k:=by
       have:=congrArg (·[0]?) ho
       simpa using this
      have ht:nd.ks.drop (o+1)=t:=by
       rw [← List.drop_drop,ho];rfl
      have hkk:=hk k (List.mem_of_getElem? hko)
      obtain ⟨s2,e2,hl2,h2⟩:=MidT.dfs h d k.toNat r s1 hkk.2.2 (by omega) (by omega) (by omega) (fun i hi=>by
       cases e:s1.getD i false with
       | false=>rfl
       | true =>
         exfalso
         rcases (h1 i).1 e with e | e | ⟨a,k',ha,hk',hi'⟩
         · have:=hs i (rch_cons hn (List.mem_of_getElem? hko) hi)
           rw [this] at e;cases e
         · have:=(h.sub hkk.2.2 hi).2;omega
         · have:=h.split hr hn hk' hko hi' hi;omega)
      rw [show ((k.toNat:Nat):Int)=k by omega] at e2
      obtain ⟨s3,e3,hl3,h3⟩:=ih (o+1) ht s2 (by omega) (fun i=>by
       rw [h2,h1]
       constructor
       · rintro ((h | h | ⟨a,k',ha,h⟩) | h)
         · exact .inl h
         · exact .inr (.inl h)
         · exact .inr (.inr ⟨a,k',by omega,h⟩)
         · exact .inr (.inr ⟨o,k,by omega,hko,h⟩)
       · rintro (h | h | ⟨a,k',ha,h,h'⟩)
         · exact .inl (.inl h)
         · exact .inl (.inr (.inl h))
         · by_cases e:a=o
           · subst e
             rw [hko] at h
             cases h
             exact .inr h'
           · exact .inl (.inr (.inr ⟨a,k',by omega,h,h'⟩)))
      refine ⟨s3,?_,hl3,h3⟩
      rw [kidsL]
      simp only [e2]
      exact e3
   obtain ⟨s',e',hl',h'⟩:=key nd.ks 0 rfl (s.set r true) (by simp) (fun i=>by
    rw [getD_setT _ _ _ (by omega)]
    constructor
    · rintro (h | h)
      · exact .inr (.inl h)
      · exact .inl h
    · rintro (h | h | ⟨a,k,ha,-⟩)
      · exact .inr h
      · exact .inl h
      · omega)
   refine ⟨s',?_,hl',fun i=>(h' i).trans ?_⟩
   · rw [dfsR,if_neg (by omega)]
     simp only [Int.toNat_natCast]
     rw [if_neg (by rw [hs r .refl];simp)]
     simp only [hn]
     rw [if_pos hrt]
     exact e'
   · constructor
     · rintro (h | h | ⟨a,k,h,hi⟩)
       · exact .inl h
       · subst h;exact .inr .refl
       · exact .inr (rch_cons hn (List.mem_of_getElem? h) hi)
     · rintro (h | h)
       · exact .inl h
       · rcases rch_head hn h with e | ⟨k,hk',hi⟩
         · exact .inr (.inl e)
         · obtain ⟨a,ha⟩:=List.getElem?_of_mem hk'
           exact .inr (.inr ⟨a,k,ha,hi⟩)
end
/-- What one go of the document marks. -/
structure DfS (ns:List Nd) (r:Nat) (s s':List Bool):Prop where
 l:s'.length=s.length
 up:∀ i,s.getD i false=true→s'.getD i false=true
 m:s'.getD r false=true∧s.getD r false=false
 le:∀ i,s'.getD i false=true→s.getD i false=false→i≤r
 nd:∀ i,s'.getD i false=true→s.getD i false=false→∃ nd,ns[i]?=some nd∧nd.right=true∧∀ k ∈ nd.ks,0≤k∧k < (i:Int)∧s'.getD k.toNat false=true∧s.getD k.toNat false=false
 u:∀ (i j:Nat) (ni nj:Nd) (a b:Nat) (k:Int),s'.getD i false=true→s.getD i false=false→s'.getD j false=true→s.getD j false=false→ns[i]?=some ni→ns[j]?=some nj→ni.ks[a]?=some k→nj.ks[b]?=some k→i=j∧a=b
structure DfL (ns:List Nd) (r:Nat) (t:List Int) (s s':List Bool):Prop where
 l:s'.length=s.length
 up:∀ i,s.getD i false=true→s'.getD i false=true
 tt:∀ k ∈ t,0≤k∧k < (r:Int)∧s'.getD k.toNat false=true∧s.getD k.toNat false=false
 d:∀ (a b:Nat) (k:Int),t[a]?=some k→t[b]?=some k→a=b
 le:∀ i,s'.getD i false=true→s.getD i false=false→i < r
 nd:∀ i,s'.getD i false=true→s.getD i false=false→∃ nd,ns[i]?=some nd∧nd.right=true∧∀ k ∈ nd.ks,0≤k∧k < (i:Int)∧s'.getD k.toNat false=true∧s.getD k.toNat false=false∧k ∉ t
 u:∀ (i j:Nat) (ni nj:Nd) (a b:Nat) (k:Int),s'.getD i false=true→s.getD i false=false→s'.getD j false=true→s.getD j false=false→ns[i]?=some ni→ns[j]?=some nj→ni.ks[a]?=some k→nj.ks[b]?=some k→i=j∧a=b
theorem fb {b:Bool} (h:¬ b=true):b=false:=by cases b <;> simp_all
theorem dfs_spec (ns:List Nd):∀ (d:Nat) (r b:Int) (s s':List Bool),b≤(s.length:Int)→dfsR ns d r b s=some s'→0≤r∧r < b∧DfS ns r.toNat s s'
 | 0,r,b,s,s',_,h=>by cases h
 | d+1,r,b,s,s',hbl,h=>by
   rw [dfsR] at h
   split at h
   · cases h
   rename_i h0
   split at h
   · cases h
   rename_i hsr
   split at h
   · cases h
   rename_i nd hn
   split at h
   case isFalse=>cases h
   rename_i hrt
   have hr0:0≤r:=by omega
   have hrl:r.toNat < s.length:=by omega
   have key:∀ (t:List Int) (s1 s2:List Bool),s1.length=s.length→kidsL (fun k s=>dfsR ns d k r s) t s1=some s2→DfL ns r.toNat t s1 s2:=by
    intro t
    induction t with
    | nil =>
      intro s1 s2 hl h
      rw [kidsL,Option.some.injEq] at h
      subst h
      exact ⟨rfl,fun _ h=>h,fun k h=>by simp at h,fun a b k h=>by simp at h,fun i h h'=>(by have e:=h.symm.trans h';cases e),fun i h h'=>(by have e:=h.symm.trans h';cases e),fun i j _ _ _ _ _ h h'=>(by have e:=h.symm.trans h';cases e)⟩
    | cons k t ih =>
      intro s1 s2 hl h
      rw [kidsL] at h
      split at h
      · cases h
      rename_i s3 h3
      obtain ⟨hk0,hkr,D⟩:=dfs_spec ns d k r s1 s3 (by omega) h3
      have L:=ih s3 s2 (by rw [D.l,hl]) h
      have hk13:∀ {i},s2.getD i false=true→s1.getD i false=false→(s3.getD i false=true∧s1.getD i false=false)∨(s2.getD i false=true∧s3.getD i false=false):=fun {i} h1 h2=>by
       cases e:s3.getD i false
       · exact .inr ⟨h1,rfl⟩
       · exact .inl ⟨rfl,h2⟩
      have no1:∀ {i},s3.getD i false=false→s1.getD i false=false:=fun {i} h=>by
       cases e:s1.getD i false
       · rfl
       · rw [D.up i e] at h;cases h
      have hkt:k ∉ t:=fun hm=>by
       have:=(L.tt k hm).2.2.2
       rw [D.m.1] at this;cases this
      refine ⟨by rw [L.l,D.l],fun i hi=>L.up i (D.up i hi),fun x hx=>?_,fun a b x ha hb=>?_,fun i h1 h2=>?_,fun i h1 h2=>?_,fun i j ni nj a b x hi1 hi2 hj1 hj2 hni hnj ha hb=>?_⟩
      · rcases List.mem_cons.1 hx with rfl | hx
        · exact ⟨hk0,by omega,L.up _ D.m.1,D.m.2⟩
        · obtain ⟨p1,p2,p3,p4⟩:=L.tt x hx
          exact ⟨p1,p2,p3,no1 p4⟩
      · cases a with
        | zero =>
          simp only [List.getElem?_cons_zero,Option.some.injEq] at ha
          subst ha
          cases b with
          | zero=>rfl
          | succ b=>exact absurd (List.mem_of_getElem? (by simpa using hb)) hkt
        | succ a =>
          cases b with
          | zero =>
            simp only [List.getElem?_cons_zero,Option.some.injEq] at hb
            subst hb
            exact absurd (List.mem_of_getElem? (by simpa using ha)) hkt
          | succ b=>rw [L.d a b x (by simpa using ha) (by simpa using hb)]
      · rcases hk13 h1 h2 with ⟨e1,e2⟩ | ⟨e1,e2⟩
        · have:=D.le i e1 e2;omega
        · exact L.le i e1 e2
      · rcases hk13 h1 h2 with ⟨e1,e2⟩ | ⟨e1,e2⟩
        · obtain ⟨nd',g1,g2,g3⟩:=D.nd i e1 e2
          refine ⟨nd',g1,g2,fun x hx=>?_⟩
          obtain ⟨p1,p2,p3,p4⟩:=g3 x hx
          refine ⟨p1,p2,L.up _ p3,p4,fun hm=>?_⟩
          rcases List.mem_cons.1 hm with rfl | hm
          · have:=D.le i e1 e2;omega
          · have:=(L.tt x hm).2.2.2
            rw [p3] at this;cases this
        · obtain ⟨nd',g1,g2,g3⟩:=L.nd i e1 e2
          refine ⟨nd',g1,g2,fun x hx=>?_⟩
          obtain ⟨p1,p2,p3,p4,p5⟩:=g3 x hx
          refine ⟨p1,p2,p3,no1 p4,fun hm=>?_⟩
          rcases List.mem_cons.1 hm with rfl | hm
          · rw [D.m.1] at p4;cases p4
          · exact p5 hm
      · rcases hk13 hi1 hi2 with ⟨e1,e2⟩ | ⟨e1,e2⟩ <;> rcases hk13 hj1 hj2 with ⟨f1,f2⟩ | ⟨f1,f2⟩
        · exact D.u i j ni nj a b x e1 e2 f1 f2 hni hnj ha hb
        · obtain ⟨nd1,g1,-,g3⟩:=D.nd i e1 e2
          rw [hni] at g1;cases g1
          obtain ⟨nd2,k1,-,k3⟩:=L.nd j f1 f2
          rw [hnj] at k1;cases k1
          have:=(g3 x (List.mem_of_getElem? ha)).2.2.1
          have:=(k3 x (List.mem_of_getElem? hb)).2.2.2.1
          simp_all
        · obtain ⟨nd1,g1,-,g3⟩:=D.nd j f1 f2
          rw [hnj] at g1;cases g1
          obtain ⟨nd2,k1,-,k3⟩:=L.nd i e1 e2
          rw [hni] at k1;cases k1
          have:=(g3 x (List.mem_of_getElem? hb)).2.2.1
          have:=(k3 x (List.mem_of_getElem? ha)).2.2.2.1
          simp_all
        · exact L.u i j ni nj a b x e1 e2 f1 f2 hni hnj ha hb
   have L:=key nd.ks (s.set r.toNat true) s' (by simp) h
   have hset:∀ i,(s.set r.toNat true).getD i false=true ↔ (i=r.toNat∨s.getD i false=true):=fun i=>getD_setT _ _ _ hrl
   have hcase:∀ {i},s'.getD i false=true→s.getD i false=false→i=r.toNat∨(s'.getD i false=true∧(s.set r.toNat true).getD i false=false):=fun {i} h1 h2=>by
    by_cases e:i=r.toNat
    · exact .inl e
    · refine .inr ⟨h1,fb fun h=>?_⟩
      rcases (hset i).1 h with h | h
      · exact e h
      · rw [h] at h2;cases h2
   have hno:∀ {i},(s.set r.toNat true).getD i false=false→s.getD i false=false:=fun {i} h=>fb fun h'=>by
    rw [(hset i).2 (.inr h')] at h;cases h
   refine ⟨hr0,by omega,by rw [L.l];simp,fun i hi=>L.up i ((hset i).2 (.inr hi)),⟨L.up _ ((hset _).2 (.inl rfl)),fb hsr⟩,fun i h1 h2=>?_,fun i h1 h2=>?_,fun i j ni nj a b x hi1 hi2 hj1 hj2 hni hnj ha hb=>?_⟩
   · rcases hcase h1 h2 with e | ⟨e1,e2⟩
     · omega
     · have:=L.le i e1 e2;omega
   · rcases hcase h1 h2 with e | ⟨e1,e2⟩
     · subst e
       refine ⟨nd,hn,hrt,fun x hx=>?_⟩
       obtain ⟨p1,p2,p3,p4⟩:=L.tt x hx
       exact ⟨p1,p2,p3,hno p4⟩
     · obtain ⟨nd',g1,g2,g3⟩:=L.nd i e1 e2
       refine ⟨nd',g1,g2,fun x hx=>?_⟩
       obtain ⟨p1,p2,p3,p4,-⟩:=g3 x hx
       exact ⟨p1,p2,p3,hno p4⟩
   · rcases hcase hi1 hi2 with e | ⟨e1,e2⟩ <;> rcases hcase hj1 hj2 with f | ⟨f1,f2⟩
     · subst e f
       rw [hn] at hni hnj
       cases hni;cases hnj
       exact ⟨rfl,L.d a b x ha hb⟩
     · subst e
       rw [hn] at hni;cases hni
       obtain ⟨nd2,k1,-,k3⟩:=L.nd j f1 f2
       rw [hnj] at k1;cases k1
       exact absurd (List.mem_of_getElem? ha) (k3 x (List.mem_of_getElem? hb)).2.2.2.2
     · subst f
       rw [hn] at hnj;cases hnj
       obtain ⟨nd2,k1,-,k3⟩:=L.nd i e1 e2
       rw [hni] at k1;cases k1
       exact absurd (List.mem_of_getElem? hb) (k3 x (List.mem_of_getElem? ha)).2.2.2.2
     · exact L.u i j ni nj a b x e1 e2 f1 f2 hni hnj ha hb
theorem dfs_mid {ns:List Nd} {d q:Nat} {b:Int} {s s':List Bool} (hb:b≤(s.length:Int)) (h0:∀ i,s.getD i false=false) (h:dfsR ns d q b s=some s'):MidT ns q (fun i=>s'.getD i false=true):=by
 obtain ⟨-,-,D⟩:=dfs_spec ns d q b s s' hb h
 simp only [Int.toNat_natCast] at D
 refine ⟨D.m.1,fun i hi=>D.le i hi (h0 i),fun i hi=>?_,fun i j ni nj a b k hi hj=>D.u i j ni nj a b k hi (h0 i) hj (h0 j)⟩
 obtain ⟨nd,g1,g2,g3⟩:=D.nd i hi (h0 i)
 exact ⟨nd,g1,g2,fun k hk=>⟨(g3 k hk).1,(g3 k hk).2.1,(g3 k hk).2.2.1⟩⟩
/-- What the kids' going leaves. -/
theorem kidsF_spec (i:Nat):∀ (l:List Int) (s s':List Bool),i≤s.length→kidsF i s l=some s' →
 (∀ k ∈ l,0≤k∧k < (i:Int)∧s.getD k.toNat false=false)∧(∀ (a b:Nat) (k:Int),l[a]?=some k→l[b]?=some k→a=b)∧s'.length=s.length∧∀ j,s'.getD j false=true ↔ (s.getD j false=true∨∃ k ∈ l,j=k.toNat)
 | [],s,s',_,h=>by
   rw [kidsF,Option.some.injEq] at h
   subst h
   simp
 | k :: t,s,s',hl,h=>by
   rw [kidsF] at h
   split at h
   · cases h
   split at h
   · cases h
   rename_i hr hs
   obtain ⟨h1,h2,h3,h4⟩:=kidsF_spec i t _ s' (by simpa using hl) h
   have hset:∀ j,(s.set k.toNat true).getD j false=true ↔ (j=k.toNat∨s.getD j false=true):=fun j=>getD_setT _ _ _ (by omega)
   have hkt:k ∉ t:=fun hm=>by
    have:=(h1 k hm).2.2
    rw [(hset _).2 (.inl rfl)] at this
    cases this
   refine ⟨fun x hx=>?_,fun a b x ha hb=>?_,by rw [h3];simp,fun j=>?_⟩
   · rcases List.mem_cons.1 hx with rfl | hx
     · exact ⟨by omega,by omega,fb hs⟩
     · obtain ⟨p1,p2,p3⟩:=h1 x hx
       exact ⟨p1,p2,fb fun h=>by rw [(hset _).2 (.inr h)] at p3;cases p3⟩
   · cases a with
     | zero =>
       simp only [List.getElem?_cons_zero,Option.some.injEq] at ha
       subst ha
       cases b with
       | zero=>rfl
       | succ b=>exact absurd (List.mem_of_getElem? (by simpa using hb)) hkt
     | succ a =>
       cases b with
       | zero =>
         simp only [List.getElem?_cons_zero,Option.some.injEq] at hb
         subst hb
         exact absurd (List.mem_of_getElem? (by simpa using ha)) hkt
       | succ b=>rw [h2 a b x (by simpa using ha) (by simpa using hb)]
   · rw [h4,hset]
     constructor
     · rintro ((h | h) | ⟨x,hx,h⟩)
       · exact .inr ⟨k,List.mem_cons_self,h⟩
       · exact .inl h
       · exact .inr ⟨x,List.mem_cons_of_mem _ hx,h⟩
     · rintro (hj | ⟨x,hx,hj⟩)
       · exact .inl (.inr hj)
       · rcases List.mem_cons.1 hx with rfl | hx
         · exact .inl (.inl hj)
         · exact .inr ⟨x,hx,hj⟩
theorem kidsF_ok (i:Nat):∀ (l:List Int) (s:List Bool),i≤s.length→(∀ k ∈ l,0≤k∧k < (i:Int)∧s.getD k.toNat false=false)→(∀ (a b:Nat) (k:Int),l[a]?=some k→l[b]?=some k→a=b)→∃ s',kidsF i s l=some s'
 | [],s,_,_,_=>⟨s,rfl⟩
 | k :: t,s,hl,h1,h2=>by
   have hk:=h1 k List.mem_cons_self
   rw [kidsF,if_neg (by omega),if_neg (by rw [hk.2.2];simp)]
   refine kidsF_ok i t _ (by simpa using hl) (fun x hx=>?_) fun a b x ha hb=>?_
   · obtain ⟨p1,p2,p3⟩:=h1 x (List.mem_cons_of_mem _ hx)
     refine ⟨p1,p2,fb fun h=>?_⟩
     rcases (getD_setT _ _ _ (by omega)).1 h with h | h
     · obtain ⟨c,hc⟩:=List.getElem?_of_mem hx
       have:=h2 0 (c+1) k rfl (by rw [List.getElem?_cons_succ,hc];congr 1;omega)
       omega
     · rw [h] at p3;cases p3
   · have:=h2 (a+1) (b+1) x (by simpa using ha) (by simpa using hb)
     omega
/-- What the program's tree leaves marked. -/
structure TrS (ns:List Nd) (m:Nat) (s f:List Bool):Prop where
 up:∀ i,s.getD i false=true→f.getD i false=true
 lo:∀ i,m≤i→f.getD i false=true→s.getD i false=true
 nd:∀ i,i < m→f.getD i false=true→∃ nd,ns[i]?=some nd∧nd.right=true∧∀ k ∈ nd.ks,0≤k∧k < (i:Int)∧f.getD k.toNat false=true∧s.getD k.toNat false=false
 u:∀ (i j:Nat) (ni nj:Nd) (a b:Nat) (k:Int),i < m→j < m→f.getD i false=true→f.getD j false=true→ns[i]?=some ni→ns[j]?=some nj→ni.ks[a]?=some k→nj.ks[b]?=some k→i=j∧a=b
theorem treeG_spec (ns:List Nd):∀ (m:Nat) (s:List Bool),m≤s.length→treeG ns m s=true→∃ f,TrS ns m s f
 | 0,s,_,_=>⟨s,fun _ h=>h,fun _ _ h=>h,fun i h=>by omega,fun i j _ _ _ _ _ h=>by omega⟩
 | m+1,s,hl,h=>by
   rw [treeG] at h
   split at h
   · rename_i hm
     split at h
     · cases h
     rename_i nd hn
     split at h
     case isFalse=>cases h
     rename_i hrt
     split at h
     · cases h
     rename_i s1 hk
     obtain ⟨k1,k2,k3,k4⟩:=kidsF_spec m nd.ks s s1 (by omega) hk
     obtain ⟨f,T⟩:=treeG_spec ns m s1 (by omega) h
     have hfm:f.getD m false=true:=T.up m ((k4 m).2 (.inl hm))
     have hno:∀ {i},s1.getD i false=false→s.getD i false=false:=fun {i} h=>fb fun h'=>by rw [(k4 i).2 (.inl h')] at h;cases h
     refine ⟨f,fun i hi=>T.up i ((k4 i).2 (.inl hi)),fun i hi hf=>?_,fun i hi hf=>?_,fun i j ni nj a b x hi hj hfi hfj hni hnj ha hb=>?_⟩
     · rcases (k4 i).1 (T.lo i (by omega) hf) with h | ⟨k,hk',h⟩
       · exact h
       · have:=k1 k hk';omega
     · by_cases e:i=m
       · subst e
         exact ⟨nd,hn,hrt,fun k hk'=>⟨(k1 k hk').1,(k1 k hk').2.1,T.up _ ((k4 _).2 (.inr ⟨k,hk',rfl⟩)),(k1 k hk').2.2⟩⟩
       · obtain ⟨nd',g1,g2,g3⟩:=T.nd i (by omega) hf
         exact ⟨nd',g1,g2,fun k hk'=>⟨(g3 k hk').1,(g3 k hk').2.1,(g3 k hk').2.2.1,hno (g3 k hk').2.2.2⟩⟩
     · have cross:∀ {j:Nat} {nj:Nd} {x:Int},j < m→f.getD j false=true→ns[j]?=some nj→x ∈ nj.ks→x ∈ nd.ks→False:=fun {j nj x} hj hfj hnj h1 h2=>by
        obtain ⟨nd',g1,-,g3⟩:=T.nd j hj hfj
        rw [hnj] at g1;cases g1
        have:=(g3 x h1).2.2.2
        rw [(k4 _).2 (.inr ⟨x,h2,rfl⟩)] at this
        cases this
       by_cases e:i=m
       · subst e
         rw [hn] at hni;cases hni
         by_cases e':j=i
         · subst e'
           rw [hn] at hnj;cases hnj
           exact ⟨rfl,k2 a b x ha hb⟩
         · exact (cross (by omega) hfj hnj (List.mem_of_getElem? hb) (List.mem_of_getElem? ha)).elim
       · by_cases e':j=m
         · subst e'
           rw [hn] at hnj;cases hnj
           exact (cross (by omega) hfi hni (List.mem_of_getElem? ha) (List.mem_of_getElem? hb)).elim
         · exact T.u i j ni nj a b x (by omega) (by omega) hfi hfj hni hnj ha hb
   · rename_i hm
     obtain ⟨f,T⟩:=treeG_spec ns m s (by omega) h
     have hfm:∀ i,f.getD i false=true→i < m+1→i < m:=fun i hf hi=>by
      by_cases e:i=m
      · subst e;exact absurd (T.lo i (Nat.le_refl _) hf) hm
      · omega
     exact ⟨f,T.up,fun i hi hf=>T.lo i (by omega) hf,fun i hi hf=>T.nd i (hfm i hf hi) hf,fun i j ni nj a b x hi hj hfi hfj=>T.u i j ni nj a b x (hfm i hfi hi) (hfm j hfj hj) hfi hfj⟩
theorem MidT.treeG {ns:List Nd} {q:Nat} {F:Nat→Prop} (h:MidT ns q F):∀ (m:Nat) (s:List Bool),m≤s.length→(∀ i,s.getD i false=true→F i) →
 (∀ k,s.getD k false=true→k=q∨∃ (j:Nat) (nj:Nd) (x:Int),m≤j∧F j∧ns[j]?=some nj∧x ∈ nj.ks∧x.toNat=k)→treeG ns m s=true
 | 0,s,_,_,_=>rfl
 | m+1,s,hl,hs,hp=>by
   rw [Go.Proofs.YtcnckjlmldnblaaGreatDoor.treeG]
   split
   · rename_i hm
     obtain ⟨nd,hn,hrt,hk⟩:=h.nd m (hs m hm)
     have hmq:=h.le m (hs m hm)
     have hno:∀ k ∈ nd.ks,s.getD k.toNat false=false:=fun k hkk=>fb fun hc=>by
      have hb:=hk k hkk
      rcases hp _ hc with e | ⟨j,nj,x,hj,hF,hnj,hx,e⟩
      · omega
      · obtain ⟨a,ha⟩:=List.getElem?_of_mem hkk
        obtain ⟨b,hb'⟩:=List.getElem?_of_mem hx
        obtain ⟨nj',g1,-,g3⟩:=h.nd j hF
        rw [hnj] at g1;cases g1
        have:=g3 x hx
        have ex:x=k:=by omega
        subst ex
        have:=(h.u m j nd nj a b x (hs m hm) hF hn hnj ha hb').1
        omega
     have huq:∀ (a b:Nat) (k:Int),nd.ks[a]?=some k→nd.ks[b]?=some k→a=b:=fun a b k ha hb=>(h.u m m nd nd a b k (hs m hm) (hs m hm) hn hn ha hb).2
     obtain ⟨s1,h1⟩:=kidsF_ok m nd.ks s (by omega) (fun k hkk=>⟨(hk k hkk).1,(hk k hkk).2.1,hno k hkk⟩) huq
     obtain ⟨k1,k2,k3,k4⟩:=kidsF_spec m nd.ks s s1 (by omega) h1
     simp only [hn,hrt,if_true,h1]
     refine MidT.treeG h m s1 (by omega) (fun i hi=>?_) (fun i hi=>?_)
     · rcases (k4 i).1 hi with e | ⟨k,hkk,e⟩
       · exact hs i e
       · rw [e];exact (hk k hkk).2.2
     · rcases (k4 i).1 hi with e | ⟨k,hkk,e⟩
       · rcases hp i e with e | ⟨j,nj,x,hj,r⟩
         · exact .inl e
         · exact .inr ⟨j,nj,x,by omega,r⟩
       · exact .inr ⟨m,nd,k,Nat.le_refl _,hs m hm,hn,hkk,e.symm⟩
   · refine MidT.treeG h m s (by omega) hs fun k hk=>?_
     rcases hp k hk with e | ⟨j,nj,x,hj,r⟩
     · exact .inl e
     · exact .inr ⟨j,nj,x,by omega,r⟩
/-- The document's tree is the program's. -/
theorem dfs_tree (ns:List Nd) (q d:Nat) (hq:q < ns.length) (hd:q < d):(dfsR ns d q ns.length (List.replicate ns.length false)).isSome=treeR ns q:=by
 have h0:∀ n i,(List.replicate n false).getD i false=false:=fun n i=>by
  rw [List.getD_eq_getElem?_getD,List.getElem?_replicate]
  split <;> rfl
 have hq0:∀ i,((List.replicate (q+1) false).set q true).getD i false=true ↔ i=q:=fun i=>by
  rw [getD_setT _ _ _ (by simp),h0]
  simp
 rw [Bool.eq_iff_iff]
 constructor
 · intro h
   obtain ⟨s',hs⟩:=Option.isSome_iff_exists.1 h
   have M:=dfs_mid (by simp) (h0 _) hs
   refine M.treeG (q+1) _ (by simp) (fun i hi=>?_) fun k hk=>.inl ((hq0 k).1 hk)
   rw [(hq0 i).1 hi]
   exact M.root
 · intro h
   obtain ⟨f,T⟩:=treeG_spec ns (q+1) _ (by simp) h
   have hle:∀ i,f.getD i false=true→i < q+1:=fun i hf=>by
    by_cases e:i < q+1
    · exact e
    · have:=(hq0 i).1 (T.lo i (by omega) hf);omega
   have M:MidT ns q (fun i=>f.getD i false=true):=by
    refine ⟨T.up q ((hq0 q).2 rfl),fun i hi=>by have:=hle i hi;omega,fun i hi=>?_,fun i j ni nj a b k hi hj=>T.u i j ni nj a b k (hle i hi) (hle j hj) hi hj⟩
    obtain ⟨nd,g1,g2,g3⟩:=T.nd i (hle i hi) hi
    exact ⟨nd,g1,g2,fun k hk=>⟨(g3 k hk).1,(g3 k hk).2.1,(g3 k hk).2.2.1⟩⟩
   obtain ⟨s',hs,-⟩:=M.dfs d q ns.length (List.replicate ns.length false) M.root (by omega) hd (by simpa using hq) (fun i _=>h0 _ i)
   rw [hs]
   rfl
/-- The operators over two values. -/
def Two2 (op:Int):Prop:=op=13∨op=14∨op=15∨op=16∨op=17∨op=18∨op=19∨op=20∨op=21∨op=22∨op=28∨op=31∨op=32
/-- What two fitting values ask of the law of two. -/
structure TwoArg (w:World) (x:Vl) (a:Option Addr) (l c:Nat):Prop where
 r:RS 1 Sv w a l c x.ss
 z:a=none→c=0
 f:Fit x
section
variable {w0 w : World} {x y : Vl} {a b : Option Addr} {l c m d : Nat}
theorem two_ord13 (hx:TwoArg w x a l c) (hy:TwoArg w y b m d) (hk:x.k=y.k∧(x.k=1∨x.k=4∨x.k=3)):Calls Tryz.prog 76 #[.int .i64 13,VA x a l c,VA y b m d] w fun e w'=>TogOut w0 w e w' (doubleW 13 x y)∧Below w.heap.size w w':=by
 have hxr:=hx.r
 have hyr:=hy.r
 have hxn:=hx.f
 rcases hk with ⟨he,h | h | h⟩
 · have ex:=shape14 hx.f (by omega)
   have ey:=shape14 hy.f (by omega)
   rw [h] at ex
   rw [← he,h] at ey
   rw [ex] at hxr ⊢
   rw [ey] at hyr ⊢
   generalize x.n=p at *
   generalize y.n=q at *
   rcases Int.lt_trichotomy p q with hc | hc | hc
   · have h1:¬ q < p:=by omega
     have h2:¬ q≤p:=by omega
     have h3:p≤q:=by omega
     exact tog_ord13lt w0 w 1 p q a l c hxr b m d hyr hc (by simp [doubleW,numbersW,orderedI,orderedW,asTime,truthV,hc,h1,h2,h3])
   · have h1:¬ q < p:=by omega
     have h0:¬ p < q:=by omega
     have h2:q≤p:=by omega
     have h3:p≤q:=by omega
     exact tog_ord13eq w0 w 1 p q a l c hxr b m d hyr hc (by simp [doubleW,numbersW,orderedI,orderedW,asTime,truthV,h0,h1,h2,h3])
   · have h1:¬ p < q:=by omega
     have h2:¬ p≤q:=by omega
     have h3:q≤p:=by omega
     exact tog_ord13gt w0 w 1 p q a l c hxr b m d hyr hc (by simp [doubleW,numbersW,orderedI,orderedW,asTime,truthV,hc,h1,h2,h3])
 · have ex:=shape14 hx.f (by omega)
   have ey:=shape14 hy.f (by omega)
   rw [h] at ex
   rw [← he,h] at ey
   rw [ex] at hxr ⊢
   rw [ey] at hyr ⊢
   generalize x.n=p at *
   generalize y.n=q at *
   rcases Int.lt_trichotomy p q with hc | hc | hc
   · have h1:¬ q < p:=by omega
     have h2:¬ q≤p:=by omega
     have h3:p≤q:=by omega
     exact tog_ord13lt w0 w 4 p q a l c hxr b m d hyr hc (by simp [doubleW,numbersW,orderedI,orderedW,asTime,truthV,hc,h1,h2,h3])
   · have h1:¬ q < p:=by omega
     have h0:¬ p < q:=by omega
     have h2:q≤p:=by omega
     have h3:p≤q:=by omega
     exact tog_ord13eq w0 w 4 p q a l c hxr b m d hyr hc (by simp [doubleW,numbersW,orderedI,orderedW,asTime,truthV,h0,h1,h2,h3])
   · have h1:¬ p < q:=by omega
     have h2:¬ p≤q:=by omega
     have h3:q≤p:=by omega
     exact tog_ord13gt w0 w 4 p q a l c hxr b m d hyr hc (by simp [doubleW,numbersW,orderedI,orderedW,asTime,truthV,hc,h1,h2,h3])
 · obtain ⟨ex,-⟩:=shape3 hx.f h
   obtain ⟨ey,-⟩:=shape3 hy.f (by omega)
   rw [ex] at hxr ⊢
   rw [ey] at hyr ⊢
   generalize x.t=s at *
   generalize y.t=t at *
   cases hc:Op.bytesLess s.toList t.toList
   · cases hc2:(s.toList == t.toList)
     · exact tog_ors13gt w0 w s t a l c hxr b m d hyr hc hc2 (by unfold doubleW orderedS orderedW;rw [hc,hc2];simp)
     · exact tog_ors13eq w0 w s t a l c hxr b m d hyr hc hc2 (by unfold doubleW orderedS orderedW;rw [hc,hc2];simp)
   · have hc2:(s.toList == t.toList)=false:=by
      cases h2:(s.toList == t.toList)
      · rfl
      · have:=toList_inj' (by simpa using h2:s.toList=t.toList)
        subst this
        rw [(less_not s s).2 (ahd_irrefl s)] at hc
        cases hc
     exact tog_ors13lt w0 w s t a l c hxr b m d hyr hc hc2 (by unfold doubleW orderedS orderedW;rw [hc,hc2];simp)
theorem two_ord14 (hx:TwoArg w x a l c) (hy:TwoArg w y b m d) (hk:x.k=y.k∧(x.k=1∨x.k=4∨x.k=3)):Calls Tryz.prog 76 #[.int .i64 14,VA x a l c,VA y b m d] w fun e w'=>TogOut w0 w e w' (doubleW 14 x y)∧Below w.heap.size w w':=by
 have hxr:=hx.r
 have hyr:=hy.r
 have hxn:=hx.f
 rcases hk with ⟨he,h | h | h⟩
 · have ex:=shape14 hx.f (by omega)
   have ey:=shape14 hy.f (by omega)
   rw [h] at ex
   rw [← he,h] at ey
   rw [ex] at hxr ⊢
   rw [ey] at hyr ⊢
   generalize x.n=p at *
   generalize y.n=q at *
   rcases Int.lt_trichotomy p q with hc | hc | hc
   · have h1:¬ q < p:=by omega
     have h2:¬ q≤p:=by omega
     have h3:p≤q:=by omega
     exact tog_ord14lt w0 w 1 p q a l c hxr b m d hyr hc (by simp [doubleW,numbersW,orderedI,orderedW,asTime,truthV,hc,h1,h2,h3])
   · have h1:¬ q < p:=by omega
     have h0:¬ p < q:=by omega
     have h2:q≤p:=by omega
     have h3:p≤q:=by omega
     exact tog_ord14eq w0 w 1 p q a l c hxr b m d hyr hc (by simp [doubleW,numbersW,orderedI,orderedW,asTime,truthV,h0,h1,h2,h3])
   · have h1:¬ p < q:=by omega
     have h2:¬ p≤q:=by omega
     have h3:q≤p:=by omega
     exact tog_ord14gt w0 w 1 p q a l c hxr b m d hyr hc (by simp [doubleW,numbersW,orderedI,orderedW,asTime,truthV,hc,h1,h2,h3])
 · have ex:=shape14 hx.f (by omega)
   have ey:=shape14 hy.f (by omega)
   rw [h] at ex
   rw [← he,h] at ey
   rw [ex] at hxr ⊢
   rw [ey] at hyr ⊢
   generalize x.n=p at *
   generalize y.n=q at *
   rcases Int.lt_trichotomy p q with hc | hc | hc
   · have h1:¬ q < p:=by omega
     have h2:¬ q≤p:=by omega
     have h3:p≤q:=by omega
     exact tog_ord14lt w0 w 4 p q a l c hxr b m d hyr hc (by simp [doubleW,numbersW,orderedI,orderedW,asTime,truthV,hc,h1,h2,h3])
   · have h1:¬ q < p:=by omega
     have h0:¬ p < q:=by omega
     have h2:q≤p:=by omega
     have h3:p≤q:=by omega
     exact tog_ord14eq w0 w 4 p q a l c hxr b m d hyr hc (by simp [doubleW,numbersW,orderedI,orderedW,asTime,truthV,h0,h1,h2,h3])
   · have h1:¬ p < q:=by omega
     have h2:¬ p≤q:=by omega
     have h3:q≤p:=by omega
     exact tog_ord14gt w0 w 4 p q a l c hxr b m d hyr hc (by simp [doubleW,numbersW,orderedI,orderedW,asTime,truthV,hc,h1,h2,h3])
 · obtain ⟨ex,-⟩:=shape3 hx.f h
   obtain ⟨ey,-⟩:=shape3 hy.f (by omega)
   rw [ex] at hxr ⊢
   rw [ey] at hyr ⊢
   generalize x.t=s at *
   generalize y.t=t at *
   cases hc:Op.bytesLess s.toList t.toList
   · cases hc2:(s.toList == t.toList)
     · exact tog_ors14gt w0 w s t a l c hxr b m d hyr hc hc2 (by unfold doubleW orderedS orderedW;rw [hc,hc2];simp)
     · exact tog_ors14eq w0 w s t a l c hxr b m d hyr hc hc2 (by unfold doubleW orderedS orderedW;rw [hc,hc2];simp)
   · have hc2:(s.toList == t.toList)=false:=by
      cases h2:(s.toList == t.toList)
      · rfl
      · have:=toList_inj' (by simpa using h2:s.toList=t.toList)
        subst this
        rw [(less_not s s).2 (ahd_irrefl s)] at hc
        cases hc
     exact tog_ors14lt w0 w s t a l c hxr b m d hyr hc hc2 (by unfold doubleW orderedS orderedW;rw [hc,hc2];simp)
theorem two_ord15 (hx:TwoArg w x a l c) (hy:TwoArg w y b m d) (hk:x.k=y.k∧(x.k=1∨x.k=4∨x.k=3)):Calls Tryz.prog 76 #[.int .i64 15,VA x a l c,VA y b m d] w fun e w'=>TogOut w0 w e w' (doubleW 15 x y)∧Below w.heap.size w w':=by
 have hxr:=hx.r
 have hyr:=hy.r
 have hxn:=hx.f
 rcases hk with ⟨he,h | h | h⟩
 · have ex:=shape14 hx.f (by omega)
   have ey:=shape14 hy.f (by omega)
   rw [h] at ex
   rw [← he,h] at ey
   rw [ex] at hxr ⊢
   rw [ey] at hyr ⊢
   generalize x.n=p at *
   generalize y.n=q at *
   rcases Int.lt_trichotomy p q with hc | hc | hc
   · have h1:¬ q < p:=by omega
     have h2:¬ q≤p:=by omega
     have h3:p≤q:=by omega
     exact tog_ord15lt w0 w 1 p q a l c hxr b m d hyr hc (by simp [doubleW,numbersW,orderedI,orderedW,asTime,truthV,hc,h1,h2,h3])
   · have h1:¬ q < p:=by omega
     have h0:¬ p < q:=by omega
     have h2:q≤p:=by omega
     have h3:p≤q:=by omega
     exact tog_ord15eq w0 w 1 p q a l c hxr b m d hyr hc (by simp [doubleW,numbersW,orderedI,orderedW,asTime,truthV,h0,h1,h2,h3])
   · have h1:¬ p < q:=by omega
     have h2:¬ p≤q:=by omega
     have h3:q≤p:=by omega
     exact tog_ord15gt w0 w 1 p q a l c hxr b m d hyr hc (by simp [doubleW,numbersW,orderedI,orderedW,asTime,truthV,hc,h1,h2,h3])
 · have ex:=shape14 hx.f (by omega)
   have ey:=shape14 hy.f (by omega)
   rw [h] at ex
   rw [← he,h] at ey
   rw [ex] at hxr ⊢
   rw [ey] at hyr ⊢
   generalize x.n=p at *
   generalize y.n=q at *
   rcases Int.lt_trichotomy p q with hc | hc | hc
   · have h1:¬ q < p:=by omega
     have h2:¬ q≤p:=by omega
     have h3:p≤q:=by omega
     exact tog_ord15lt w0 w 4 p q a l c hxr b m d hyr hc (by simp [doubleW,numbersW,orderedI,orderedW,asTime,truthV,hc,h1,h2,h3])
   · have h1:¬ q < p:=by omega
     have h0:¬ p < q:=by omega
     have h2:q≤p:=by omega
     have h3:p≤q:=by omega
     exact tog_ord15eq w0 w 4 p q a l c hxr b m d hyr hc (by simp [doubleW,numbersW,orderedI,orderedW,asTime,truthV,h0,h1,h2,h3])
   · have h1:¬ p < q:=by omega
     have h2:¬ p≤q:=by omega
     have h3:q≤p:=by omega
     exact tog_ord15gt w0 w 4 p q a l c hxr b m d hyr hc (by simp [doubleW,numbersW,orderedI,orderedW,asTime,truthV,hc,h1,h2,h3])
 · obtain ⟨ex,-⟩:=shape3 hx.f h
   obtain ⟨ey,-⟩:=shape3 hy.f (by omega)
   rw [ex] at hxr ⊢
   rw [ey] at hyr ⊢
   generalize x.t=s at *
   generalize y.t=t at *
   cases hc:Op.bytesLess s.toList t.toList
   · cases hc2:(s.toList == t.toList)
     · exact tog_ors15gt w0 w s t a l c hxr b m d hyr hc hc2 (by unfold doubleW orderedS orderedW;rw [hc,hc2];simp)
     · exact tog_ors15eq w0 w s t a l c hxr b m d hyr hc hc2 (by unfold doubleW orderedS orderedW;rw [hc,hc2];simp)
   · have hc2:(s.toList == t.toList)=false:=by
      cases h2:(s.toList == t.toList)
      · rfl
      · have:=toList_inj' (by simpa using h2:s.toList=t.toList)
        subst this
        rw [(less_not s s).2 (ahd_irrefl s)] at hc
        cases hc
     exact tog_ors15lt w0 w s t a l c hxr b m d hyr hc hc2 (by unfold doubleW orderedS orderedW;rw [hc,hc2];simp)
theorem two_ord16 (hx:TwoArg w x a l c) (hy:TwoArg w y b m d) (hk:x.k=y.k∧(x.k=1∨x.k=4∨x.k=3)):Calls Tryz.prog 76 #[.int .i64 16,VA x a l c,VA y b m d] w fun e w'=>TogOut w0 w e w' (doubleW 16 x y)∧Below w.heap.size w w':=by
 have hxr:=hx.r
 have hyr:=hy.r
 have hxn:=hx.f
 rcases hk with ⟨he,h | h | h⟩
 · have ex:=shape14 hx.f (by omega)
   have ey:=shape14 hy.f (by omega)
   rw [h] at ex
   rw [← he,h] at ey
   rw [ex] at hxr ⊢
   rw [ey] at hyr ⊢
   generalize x.n=p at *
   generalize y.n=q at *
   rcases Int.lt_trichotomy p q with hc | hc | hc
   · have h1:¬ q < p:=by omega
     have h2:¬ q≤p:=by omega
     have h3:p≤q:=by omega
     exact tog_ord16lt w0 w 1 p q a l c hxr b m d hyr hc (by simp [doubleW,numbersW,orderedI,orderedW,asTime,truthV,hc,h1,h2,h3])
   · have h1:¬ q < p:=by omega
     have h0:¬ p < q:=by omega
     have h2:q≤p:=by omega
     have h3:p≤q:=by omega
     exact tog_ord16eq w0 w 1 p q a l c hxr b m d hyr hc (by simp [doubleW,numbersW,orderedI,orderedW,asTime,truthV,h0,h1,h2,h3])
   · have h1:¬ p < q:=by omega
     have h2:¬ p≤q:=by omega
     have h3:q≤p:=by omega
     exact tog_ord16gt w0 w 1 p q a l c hxr b m d hyr hc (by simp [doubleW,numbersW,orderedI,orderedW,asTime,truthV,hc,h1,h2,h3])
 · have ex:=shape14 hx.f (by omega)
   have ey:=shape14 hy.f (by omega)
   rw [h] at ex
   rw [← he,h] at ey
   rw [ex] at hxr ⊢
   rw [ey] at hyr ⊢
   generalize x.n=p at *
   generalize y.n=q at *
   rcases Int.lt_trichotomy p q with hc | hc | hc
   · have h1:¬ q < p:=by omega
     have h2:¬ q≤p:=by omega
     have h3:p≤q:=by omega
     exact tog_ord16lt w0 w 4 p q a l c hxr b m d hyr hc (by simp [doubleW,numbersW,orderedI,orderedW,asTime,truthV,hc,h1,h2,h3])
   · have h1:¬ q < p:=by omega
     have h0:¬ p < q:=by omega
     have h2:q≤p:=by omega
     have h3:p≤q:=by omega
     exact tog_ord16eq w0 w 4 p q a l c hxr b m d hyr hc (by simp [doubleW,numbersW,orderedI,orderedW,asTime,truthV,h0,h1,h2,h3])
   · have h1:¬ p < q:=by omega
     have h2:¬ p≤q:=by omega
     have h3:q≤p:=by omega
     exact tog_ord16gt w0 w 4 p q a l c hxr b m d hyr hc (by simp [doubleW,numbersW,orderedI,orderedW,asTime,truthV,hc,h1,h2,h3])
 · obtain ⟨ex,-⟩:=shape3 hx.f h
   obtain ⟨ey,-⟩:=shape3 hy.f (by omega)
   rw [ex] at hxr ⊢
   rw [ey] at hyr ⊢
   generalize x.t=s at *
   generalize y.t=t at *
   cases hc:Op.bytesLess s.toList t.toList
   · cases hc2:(s.toList == t.toList)
     · exact tog_ors16gt w0 w s t a l c hxr b m d hyr hc hc2 (by unfold doubleW orderedS orderedW;rw [hc,hc2];simp)
     · exact tog_ors16eq w0 w s t a l c hxr b m d hyr hc hc2 (by unfold doubleW orderedS orderedW;rw [hc,hc2];simp)
   · have hc2:(s.toList == t.toList)=false:=by
      cases h2:(s.toList == t.toList)
      · rfl
      · have:=toList_inj' (by simpa using h2:s.toList=t.toList)
        subst this
        rw [(less_not s s).2 (ahd_irrefl s)] at hc
        cases hc
     exact tog_ors16lt w0 w s t a l c hxr b m d hyr hc hc2 (by unfold doubleW orderedS orderedW;rw [hc,hc2];simp)
theorem two_in (hx:TwoArg w x a l c) (hy:TwoArg w y b m d) (h1:x.k=3) (h2:y.k=5):Calls Tryz.prog 76 #[.int .i64 17,VA x a l c,VA y b m d] w fun e w'=>TogOut w0 w e w' (doubleW 17 x y)∧Below w.heap.size w w':=by
 have hxr:=hx.r
 have hyr:=hy.r
 obtain ⟨ex,-⟩:=shape3 hx.f h1
 obtain ⟨ey,-⟩:=shape5 hy.f h2
 rw [ex] at hxr ⊢
 rw [ey] at hyr ⊢
 exact tog_in w0 w x.t y.ss a l c hxr b m d hyr
theorem two_join (hx:TwoArg w x a l c) (hy:TwoArg w y b m d) (h1:x.k=3) (h2:y.k=3):Calls Tryz.prog 76 #[.int .i64 28,VA x a l c,VA y b m d] w fun e w'=>TogOut w0 w e w' (doubleW 28 x y)∧Below w.heap.size w w':=by
 have hxr:=hx.r
 have hyr:=hy.r
 obtain ⟨ex,s1⟩:=shape3 hx.f h1
 obtain ⟨ey,s2⟩:=shape3 hy.f h2
 rw [ex] at hxr ⊢
 rw [ey] at hyr ⊢
 exact tog_join w0 w x.t y.t a l c hxr b m d hyr ⟨s1,s2⟩
theorem two_mm31 (hx:TwoArg w x a l c) (hy:TwoArg w y b m d) (hk:x.k=y.k∧(x.k=1∨x.k=4)):Calls Tryz.prog 76 #[.int .i64 31,VA x a l c,VA y b m d] w fun e w'=>TogOut w0 w e w' (doubleW 31 x y)∧Below w.heap.size w w':=by
 have hxr:=hx.r
 have hyr:=hy.r
 rcases hk with ⟨he,h | h⟩
 · have ex:=shape14 hx.f (by omega)
   have ey:=shape14 hy.f (by omega)
   rw [h] at ex
   rw [← he,h] at ey
   rw [ex] at hxr ⊢
   rw [ey] at hyr ⊢
   generalize x.n=p at *
   generalize y.n=q at *
   by_cases hc:p < q
   · have hm:min p q=p:=by omega
     exact tog_mm31lt w0 w 1 p q a l c hxr b m d hyr hc hx.z hy.z rfl (by simp [doubleW,numbersW,intV,asTime,hm])
   · have hm:min p q=q:=by omega
     exact tog_mm31ge w0 w 1 p q a l c hxr b m d hyr hc hx.z hy.z rfl (by simp [doubleW,numbersW,intV,asTime,hm])
 · have ex:=shape14 hx.f (by omega)
   have ey:=shape14 hy.f (by omega)
   rw [h] at ex
   rw [← he,h] at ey
   rw [ex] at hxr ⊢
   rw [ey] at hyr ⊢
   generalize x.n=p at *
   generalize y.n=q at *
   by_cases hc:p < q
   · have hm:min p q=p:=by omega
     exact tog_mm31lt w0 w 4 p q a l c hxr b m d hyr hc hx.z hy.z rfl (by simp [doubleW,numbersW,intV,asTime,hm])
   · have hm:min p q=q:=by omega
     exact tog_mm31ge w0 w 4 p q a l c hxr b m d hyr hc hx.z hy.z rfl (by simp [doubleW,numbersW,intV,asTime,hm])
theorem two_mm32 (hx:TwoArg w x a l c) (hy:TwoArg w y b m d) (hk:x.k=y.k∧(x.k=1∨x.k=4)):Calls Tryz.prog 76 #[.int .i64 32,VA x a l c,VA y b m d] w fun e w'=>TogOut w0 w e w' (doubleW 32 x y)∧Below w.heap.size w w':=by
 have hxr:=hx.r
 have hyr:=hy.r
 rcases hk with ⟨he,h | h⟩
 · have ex:=shape14 hx.f (by omega)
   have ey:=shape14 hy.f (by omega)
   rw [h] at ex
   rw [← he,h] at ey
   rw [ex] at hxr ⊢
   rw [ey] at hyr ⊢
   generalize x.n=p at *
   generalize y.n=q at *
   by_cases hc:p < q
   · have hm:max p q=q:=by omega
     exact tog_mm32lt w0 w 1 p q a l c hxr b m d hyr hc hx.z hy.z rfl (by simp [doubleW,numbersW,intV,asTime,hm])
   · have hm:max p q=p:=by omega
     exact tog_mm32ge w0 w 1 p q a l c hxr b m d hyr hc hx.z hy.z rfl (by simp [doubleW,numbersW,intV,asTime,hm])
 · have ex:=shape14 hx.f (by omega)
   have ey:=shape14 hy.f (by omega)
   rw [h] at ex
   rw [← he,h] at ey
   rw [ex] at hxr ⊢
   rw [ey] at hyr ⊢
   generalize x.n=p at *
   generalize y.n=q at *
   by_cases hc:p < q
   · have hm:max p q=q:=by omega
     exact tog_mm32lt w0 w 4 p q a l c hxr b m d hyr hc hx.z hy.z rfl (by simp [doubleW,numbersW,intV,asTime,hm])
   · have hm:max p q=p:=by omega
     exact tog_mm32ge w0 w 4 p q a l c hxr b m d hyr hc hx.z hy.z rfl (by simp [doubleW,numbersW,intV,asTime,hm])
theorem two_num (op:Int) (hop:op=18∨op=19∨op=20∨op=21∨op=22) (hx:TwoArg w x a l c) (hy:TwoArg w y b m d) (h1:x.k=1) (h2:y.k=1):Calls Tryz.prog 76 #[.int .i64 op,VA x a l c,VA y b m d] w fun e w'=>TogOut w0 w e w' (doubleW op x y)∧Below w.heap.size w w':=by
 have hxr:=hx.r
 have hyr:=hy.r
 have hp:=hx.f.n
 have hq:=hy.f.n
 have ex:=shape14 hx.f (.inl h1)
 have ey:=shape14 hy.f (.inl h2)
 rw [h1] at ex
 rw [h2] at ey
 rw [ex] at hxr ⊢
 rw [ey] at hyr ⊢
 exact tog_num w0 w op x.n y.n a l c hxr b m d hyr hop hp hq (by simp [doubleW])
theorem time_fit {x:Vl} (h:Fit x) (hk:x.k=4):timelyB x.n=true:=(right_parts h.r).2.1 hk
theorem two_tt (hx:TwoArg w x a l c) (hy:TwoArg w y b m d) (h1:x.k=4) (h2:y.k=4):Calls Tryz.prog 76 #[.int .i64 19,VA x a l c,VA y b m d] w fun e w'=>TogOut w0 w e w' (doubleW 19 x y)∧Below w.heap.size w w':=by
 have hxr:=hx.r
 have hyr:=hy.r
 have hp:=hx.f.n
 have hq:=hy.f.n
 have tp:=time_fit hx.f h1
 have tq:=time_fit hy.f h2
 have ex:=shape14 hx.f (.inr h1)
 have ey:=shape14 hy.f (.inr h2)
 rw [h1] at ex
 rw [h2] at ey
 rw [ex] at hxr ⊢
 rw [ey] at hyr ⊢
 have hin:I64 (x.n - y.n):=by
  unfold timelyB at tp tq
  simp at tp tq
  unfold I64
  omega
 exact tog_tt w0 w 19 x.n y.n a l c hxr b m d hyr (by omega) hp hq (by rw [show numbersW 19 x.n y.n=numW (x.n - y.n) from rfl,numW_ok hin];simp [doubleW])
theorem two_ti (op:Int) (hop:op=18∨op=19) (hx:TwoArg w x a l c) (hy:TwoArg w y b m d) (h1:x.k=4) (h2:y.k=1):Calls Tryz.prog 76 #[.int .i64 op,VA x a l c,VA y b m d] w fun e w'=>TogOut w0 w e w' (doubleW op x y)∧Below w.heap.size w w':=by
 have hxr:=hx.r
 have hyr:=hy.r
 have hp:=hx.f.n
 have hq:=hy.f.n
 have ex:=shape14 hx.f (.inr h1)
 have ey:=shape14 hy.f (.inl h2)
 rw [h1] at ex
 rw [h2] at ey
 rw [ex] at hxr ⊢
 rw [ey] at hyr ⊢
 rcases hop with rfl | rfl
 · exact tog_ti w0 w 18 x.n y.n (x.n+y.n) a l c hxr b m d hyr (by omega) hp hq rfl (by simp [doubleW,movedW])
 · exact tog_ti w0 w 19 x.n y.n (x.n - y.n) a l c hxr b m d hyr (by omega) hp hq rfl (by simp [doubleW,movedW,Int.sub_eq_add_neg])
theorem two_it (hx:TwoArg w x a l c) (hy:TwoArg w y b m d) (h1:x.k=1) (h2:y.k=4):Calls Tryz.prog 76 #[.int .i64 18,VA x a l c,VA y b m d] w fun e w'=>TogOut w0 w e w' (doubleW 18 x y)∧Below w.heap.size w w':=by
 have hxr:=hx.r
 have hyr:=hy.r
 have hp:=hx.f.n
 have hq:=hy.f.n
 have ex:=shape14 hx.f (.inl h1)
 have ey:=shape14 hy.f (.inr h2)
 rw [h1] at ex
 rw [h2] at ey
 rw [ex] at hxr ⊢
 rw [ey] at hyr ⊢
 exact tog_it w0 w 18 x.n y.n (x.n+y.n) a l c hxr b m d hyr (by omega) hp hq rfl (by simp [doubleW,movedW,Int.add_comm])
theorem two_set (op:Int) (hop:op=18∨op=19) (hx:TwoArg w x a l c) (hy:TwoArg w y b m d) (h1:x.k=5) (h2:y.k=5∨y.k=3):Calls Tryz.prog 76 #[.int .i64 op,VA x a l c,VA y b m d] w fun e w'=>TogOut w0 w e w' (doubleW op x y)∧Below w.heap.size w w':=by
 have hxr:=hx.r
 have hyr:=hy.r
 obtain ⟨ex,sx⟩:=shape5 hx.f h1
 rw [ex] at hxr ⊢
 rcases h2 with h2 | h2
 · obtain ⟨ey,sy⟩:=shape5 hy.f h2
   rw [ey] at hyr ⊢
   rcases hop with rfl | rfl
   · exact tog_add5 w0 w x.ss y.ss a l c hxr b m d hyr hx.z hy.z sx sy (by simp [doubleW])
   · exact tog_sub5 w0 w x.ss y.ss a l c hxr b m d hyr hx.z hy.z sx sy (by simp [doubleW])
 · obtain ⟨ey,sy⟩:=shape3 hy.f h2
   rw [ey] at hyr ⊢
   rcases hop with rfl | rfl
   · exact tog_add3 w0 w x.ss y.t a l c hxr b m d hyr hx.z hy.z sx sy (by simp [doubleW])
   · exact tog_sub3 w0 w x.ss y.t a l c hxr b m d hyr hx.z hy.z sx sy (by simp [doubleW])
theorem together_any (op:Int) (hop:Two2 op) (hx:TwoArg w x a l c) (hy:TwoArg w y b m d) (hrow:0 < binK op x.k y.k):Calls Tryz.prog 76 #[.int .i64 op,VA x a l c,VA y b m d] w fun e w'=>TogOut w0 w e w' (doubleW op x y)∧Below w.heap.size w w':=by
 rcases hop with rfl | rfl | rfl | rfl | rfl | rfl | rfl | rfl | rfl | rfl | rfl | rfl | rfl
 · exact two_ord13 hx hy (by unfold binK at hrow;simp at hrow;omega)
 · exact two_ord14 hx hy (by unfold binK at hrow;simp at hrow;omega)
 · exact two_ord15 hx hy (by unfold binK at hrow;simp at hrow;omega)
 · exact two_ord16 hx hy (by unfold binK at hrow;simp at hrow;omega)
 · exact two_in hx hy (by unfold binK at hrow;simp at hrow;omega) (by unfold binK at hrow;simp at hrow;omega)
 · have hc:(x.k=1∧y.k=1)∨(x.k=4∧y.k=1)∨(x.k=1∧y.k=4)∨(x.k=5∧(y.k=5∨y.k=3)):=by
    unfold binK at hrow
    simp only [if_true] at hrow
    split at hrow
    · exact .inl ‹_›
    · split at hrow
      · rename_i h;rcases h with h | h
        · exact .inr (.inl h)
        · exact .inr (.inr (.inl h))
      · split at hrow
        · exact .inr (.inr (.inr ‹_›))
        · omega
   rcases hc with ⟨h1,h2⟩ | ⟨h1,h2⟩ | ⟨h1,h2⟩ | ⟨h1,h2⟩
   · exact two_num 18 (by omega) hx hy h1 h2
   · exact two_ti 18 (by omega) hx hy h1 h2
   · exact two_it hx hy h1 h2
   · exact two_set 18 (by omega) hx hy h1 h2
 · have hc:(x.k=1∧y.k=1)∨(x.k=4∧y.k=4)∨(x.k=4∧y.k=1)∨(x.k=5∧(y.k=5∨y.k=3)):=by
    unfold binK at hrow
    rw [if_neg (by decide),if_pos rfl] at hrow
    split at hrow
    · rename_i h;rcases h with h | h
      · exact .inl h
      · exact .inr (.inl h)
    · split at hrow
      · exact .inr (.inr (.inl ‹_›))
      · split at hrow
        · exact .inr (.inr (.inr ‹_›))
        · omega
   rcases hc with ⟨h1,h2⟩ | ⟨h1,h2⟩ | ⟨h1,h2⟩ | ⟨h1,h2⟩
   · exact two_num 19 (by omega) hx hy h1 h2
   · exact two_tt hx hy h1 h2
   · exact two_ti 19 (by omega) hx hy h1 h2
   · exact two_set 19 (by omega) hx hy h1 h2
 · exact two_num 20 (by omega) hx hy (by unfold binK at hrow;simp at hrow;omega) (by unfold binK at hrow;simp at hrow;omega)
 · exact two_num 21 (by omega) hx hy (by unfold binK at hrow;simp at hrow;omega) (by unfold binK at hrow;simp at hrow;omega)
 · exact two_num 22 (by omega) hx hy (by unfold binK at hrow;simp at hrow;omega) (by unfold binK at hrow;simp at hrow;omega)
 · exact two_join hx hy (by unfold binK at hrow;simp at hrow;omega) (by unfold binK at hrow;simp at hrow;omega)
 · exact two_mm31 hx hy (by unfold binK at hrow;simp at hrow;split at hrow <;> omega)
 · exact two_mm32 hx hy (by unfold binK at hrow;simp at hrow;split at hrow <;> omega)
end
/-- What the document's tree looks at, in the elder world. -/
structure EnvT (wB:World) (na:Option Addr) (n nc:Nat) (ns:List Nd):Prop where
 r:RS 7 Nd.cs wB na n nc ns
 ok:∀ nd ∈ ns,nd.ok wB
 t:ResTab wB 0
 h:0 < wB.heap.size
def TreeO (wB:World) (e:Ending) (w':World) (g n:Nat) (r:Option (List Bool)):Prop:=e=.returned (.bool r.isSome)∧(∀ s',r=some s'→w'.ownsRow wB.heap.size 4 1 (.slice (some ⟨g,0,none⟩) n n) n (s'.map Value.bool))∧Below wB.heap.size wB w'
theorem TreeO.no {wB w':World} {g n:Nat} {r:Option (List Bool)} (h:r=none) (hb:Below wB.heap.size wB w'):TreeO wB (.returned (.bool false)) w' g n r:=by
 subst h
 exact ⟨rfl,fun s h=>(by cases h),hb⟩
theorem TreeO.yes {wB w':World} {g n:Nat} {r:Option (List Bool)} {s:List Bool} (h:r=some s) (ho:w'.ownsRow wB.heap.size 4 1 (.slice (some ⟨g,0,none⟩) n n) n (s.map Value.bool)) (hb:Below wB.heap.size wB w'):TreeO wB (.returned (.bool true)) w' g n r:=by
 subst h
 exact ⟨rfl,fun s' h=>(by cases h;exact ho),hb⟩
/-- So deep goes the document's tree. -/
def TreeAt (wB:World) (na:Option Addr) (n nc:Nat) (ns:List Nd) (d:Nat):Prop :=
 ∀ (w:World) (r b:Int) (s:List Bool) (g:Nat),Below wB.heap.size wB w→b≤(n:Int)→b≤(d:Int)→w.ownsRow wB.heap.size 4 1 (.slice (some ⟨g,0,none⟩) n n) n (s.map Value.bool) →
   Calls Tryz.prog 41 #[.slice na n nc,.int .i64 r,.int .i64 b,.slice (some ⟨g,0,none⟩) n n] w fun e w'=>TreeO wB e w' g n (dfsR ns d r b s)
theorem reftree_no (wB:World) (na:Option Addr) (n nc:Nat) (ns:List Nd) (d:Nat) (w:World) (r b:Int) (s:List Bool) (g:Nat) (hb:Below wB.heap.size wB w) (h:r < 0∨b≤r) :
 Calls Tryz.prog 41 #[.slice na n nc,.int .i64 r,.int .i64 b,.slice (some ⟨g,0,none⟩) n n] w fun e w'=>TreeO wB e w' g n (dfsR ns d r b s):=by
 have HN:=Lib.hid (show dfsR ns d r b s=none by cases d <;> simp [dfsR,h])
 have HB:=Lib.hid hb
 clear hb
 by_cases h0:r < 0
 · clear h
   go_enter Tryz.func41,Tryz.ntmps41
   go_wp2
   go_ret
   exact .no HN.out HB.out
 · have h1:b≤r:=by omega
   clear h
   go_enter Tryz.func41,Tryz.ntmps41
   go_wp2
   go_ret
   exact .no HN.out HB.out
theorem reftree_step (wB:World) (na:Option Addr) (n nc:Nat) (ns:List Nd) (hE:EnvT wB na n nc ns) (d:Nat) (ih:TreeAt wB na n nc ns d):TreeAt wB na n nc ns (d+1):=by
 intro w r b s g hb hbn hbd ho
 by_cases h:r < 0∨b≤r
 · exact reftree_no wB na n nc ns (d+1) w r b s g hb h
 obtain ⟨q,rfl⟩:∃ q:Nat,r=q:=⟨r.toNat,by omega⟩
 have hqn:q < n:=by omega
 have hqI:(q:Int) < (n:Int):=by omega
 have hqb:¬ b≤(q:Int):=by omega
 have hq0:¬ (q:Int) < 0:=by omega
 have hqd:(q:Int)≤(d:Int):=by omega
 have hq0':(0:Int)≤(q:Int):=by omega
 have hsl:s.length=n:=by have:=ho.1;simpa using this
 have HE:=Lib.hid hE
 have HIH:=Lib.hid ih
 have HB:=Lib.hid hb
 have HO:=Lib.hid ho
 have HSL:=Lib.hid hsl
 have hc:=ho.cellAt q (by omega)
 have hfz:=ho.frozenAt q
 obtain ⟨bv,hbv⟩:∃ bv,s[q]?=some bv:=⟨_,List.getElem?_eq_getElem (by omega)⟩
 rw [List.getElem?_map,hbv] at hc
 simp only [Option.map_some] at hc
 have HG:=Lib.hid (show s.getD q false=bv by rw [List.getD_eq_getElem?_getD,hbv];rfl)
 have HD0:=Lib.hid (show dfsR ns (d+1) (q:Int) b s=if s.getD q false=true then none else match ns[q]? with
  | none=>none
  | some nd=>if nd.right=true then kidsL (fun k s=>dfsR ns d k q s) nd.ks (s.set q true) else none by rw [dfsR,if_neg h];rfl)
 obtain ⟨nb,no,nd,hna,hnd,hcl0⟩:=hE.r.at hqn
 have HND:=Lib.hid hnd
 have HOK:=Lib.hid (hE.ok nd (List.mem_of_getElem? hnd))
 have hnd48:=hE.r.2.2.1
 clear hE ih ho hsl hbv h hnd
 subst hna
 cases bv
 rotate_left
 · have HN:=Lib.hid (show dfsR ns (d+1) (q:Int) b s=none by rw [HD0.out,HG.out,if_pos rfl])
   clear hcl0 hfz
   go_enter Tryz.func41,Tryz.ntmps41
   go_wp2
   go_ret
   exact .no HN.out HB.out
 have HCL:=Lib.hid (fun (W:World) (hW:Below wB.heap.size wB W) (j:Nat) (v:Value) (hv:(Nd.cs nd)[j]?=some v)=>(hW.cell (p:=⟨nb,no+q * 7+j,none⟩) (block_lt_of_cell (hcl0 j v hv))).trans (hcl0 j v hv):∀ W,Below wB.heap.size wB W→∀ j v,(Nd.cs nd)[j]?=some v→W.cell? ⟨nb,no+q * 7+j,none⟩=some v)
 clear hcl0
 have n0:=HCL.out w HB.out 0 _ rfl
 have n1:=HCL.out w HB.out 1 _ rfl
 have n2:=HCL.out w HB.out 2 _ rfl
 have n3:=HCL.out w HB.out 3 _ rfl
 have n4:=HCL.out w HB.out 4 _ rfl
 have n5:=HCL.out w HB.out 5 _ rfl
 have n6:=HCL.out w HB.out 6 _ rfl
 simp only [Nat.add_zero] at n0
 cases hrt:nd.right
 · have HN:=Lib.hid (show dfsR ns (d+1) (q:Int) b s=none by rw [HD0.out,HG.out,if_neg (by decide),HND.out];simp only [hrt];rfl)
   have HR:=Lib.hid (show rightB nd.op nd.nm.data.toList nd.vk nd.vn nd.vt.data.toList nd.sl nd.kl=false from hrt)
   go_enter Tryz.func41,Tryz.ntmps41
   go_wp2_with (go_at_call 56;refine (ref9right_any nd.op w nd.nm nd.vk nd.vn nd.vt nd.sa nd.sl nd.sc nd.ka nd.kl nd.kc HOK.out.2.1 (HE.out.t.below HB.out HE.out.h HE.out.h) (Nat.lt_of_lt_of_le HE.out.h HB.out.size)).mono ?_;rintro e w1 ⟨rfl,hb1⟩;rw [HR.out])
   go_ret
   exact .no HN.out (HB.out.trans (hb1.mono HB.out.size))
 · have HDD:=Lib.hid (show dfsR ns (d+1) (q:Int) b s=kidsL (fun k s=>dfsR ns d k q s) nd.ks (s.set q true) by rw [HD0.out,HG.out,if_neg (by decide),HND.out];simp only [hrt,if_true])
   have HR:=Lib.hid (show rightB nd.op nd.nm.data.toList nd.vk nd.vn nd.vt.data.toList nd.sl nd.kl=true from hrt)
   have hkl48:=HOK.out.1.2.2.1
   go_enter Tryz.func41,Tryz.ntmps41
   go_wp2_with (go_at_call 56;refine (ref9right_any nd.op w nd.nm nd.vk nd.vn nd.vt nd.sa nd.sl nd.sc nd.ka nd.kl nd.kc HOK.out.2.1 (HE.out.t.below HB.out HE.out.h HE.out.h) (Nat.lt_of_lt_of_le HE.out.h HB.out.size)).mono ?_;rintro e w1 ⟨rfl,hb1⟩;rw [HR.out];have HB1:=Lib.hid (HB.out.trans (hb1.mono HB.out.size));have ho1:=own_below HO.out hb1;have hc1:=ho1.cellAt q (by omega);rw [List.getElem?_map,show s[q]?=some false by have h:=HG.out;rw [List.getD_eq_getElem?_getD] at h;cases e:s[q]? with | none=>have:=HSL.out;rw [List.getElem?_eq_none_iff] at e;omega | some v=>rw [e] at h;exact congrArg some h] at hc1;simp only [Option.map_some] at hc1;have hfz1:=ho1.frozenAt q;have ho2:=(ho1.stored q (.bool true)).1;rw [← List.map_set] at ho2;have HO2:=Lib.hid ho2;have HB2:=Lib.hid (HB1.out.setCell (p:=⟨g,q,none⟩) (ho1.lt g rfl).1 (.bool true));clear ho2 ho1 hb1)
   clear n0 n1 n2 n3 n4 n5 n6 hc hfz hc1 hfz1
   go_loopw [9] (fun i wr=>∃ (k:Nat) (si:List Bool),k≤nd.kl∧i=.int .i64 k∧wr.ownsRow wB.heap.size 4 1 (.slice (some ⟨g,0,none⟩) n n) n (si.map Value.bool)∧Below wB.heap.size wB wr∧kidsL (fun k s=>dfsR ns d k q s) nd.ks (s.set q true)=kidsL (fun k s=>dfsR ns d k q s) (nd.ks.drop k) si) (fun i _=>nd.kl - (intOf i).toNat)
   case atStart=>exact ⟨0,_,Nat.zero_le _,rfl,HO2.out,HB2.out,rfl⟩
   case round =>
    obtain ⟨k,si,hk,rfl,hoi,hbi,hki⟩:=hrel
    have HOI:=Lib.hid hoi
    have HBI:=Lib.hid hbi
    have HKI:=Lib.hid hki
    have n6:=HCL.out wr hbi 6 _ rfl
    clear hoi hbi hki
    by_cases hlt:k < nd.kl
    · have hltI:(k:Int) < (nd.kl:Int):=by omega
      obtain ⟨kb,ko,x,hka,hx,-⟩:=HOK.out.1.at hlt
      have HKR:=HOK.out.1.below HBI.out
      rw [hka] at HKR n6
      have k0:wr.cell? ⟨kb,ko+k,none⟩=some (.int .i64 x):=by have:=RS.atR HKR hx 0 _ rfl;simpa using this
      have HDR:=Lib.hid (show nd.ks.drop k=x :: nd.ks.drop (k+1) by
       obtain ⟨h1,h2⟩:=List.getElem?_eq_some_iff.1 hx
       rw [List.drop_eq_getElem_cons h1,h2])
      clear HKR hka hx
      have HC:=Lib.hid (HIH.out wr x q si g HBI.out (by omega) hqd HOI.out)
      cases hr:dfsR ns d x q si with
      | none =>
        have HN:=Lib.hid (show dfsR ns (d+1) (q:Int) b s=none by rw [HDD.out,HKI.out,HDR.out,kidsL];simp only [hr])
        rw [hr] at HC
        clear hr
        go_wp2_with (go_at_call 41;refine (HC.out).mono ?_;rintro e w4 ⟨rfl,-,hb4⟩)
        go_ret
        exact .no HN.out hb4
      | some s' =>
        have HN:=Lib.hid (show kidsL (fun k s=>dfsR ns d k q s) nd.ks (s.set q true)=kidsL (fun k s=>dfsR ns d k q s) (nd.ks.drop (k+1)) s' by rw [HKI.out,HDR.out,kidsL];simp only [hr])
        rw [hr] at HC
        clear hr
        go_wp2_with (go_at_call 41;refine (HC.out).mono ?_;rintro e w4 ⟨rfl,ho4,hb4⟩;have HO4:=Lib.hid (ho4 s' rfl);have HB4:=Lib.hid hb4;clear ho4 hb4)
        go_roundw
        case rel=>exact ⟨k+1,s',by omega,by go_num,HO4.out,HB4.out,HN.out⟩
        case measure=>simp [intOf];omega
    · have hltI:¬ (k:Int) < (nd.kl:Int):=by omega
      have HF:=Lib.hid (show dfsR ns (d+1) (q:Int) b s=some si by
       rw [HDD.out,HKI.out,List.drop_eq_nil_of_le (by have:=HOK.out.1.1;omega)]
       rfl)
      go_wp2_with fail
      go_ret
      exact .yes HF.out HOI.out HBI.out
theorem reftree_all (wB:World) (na:Option Addr) (n nc:Nat) (ns:List Nd) (hE:EnvT wB na n nc ns):∀ d,TreeAt wB na n nc ns d
 | 0=>fun w r b s g hb _ hb0 _=>reftree_no wB na n nc ns 0 w r b s g hb (by omega)
 | d+1=>reftree_step wB na n nc ns hE d (reftree_all wB na n nc ns hE d)
end Go.Proofs.YtcnckjlmldnblaaGreatDoor
