import Derived.Test.YtgkehahklccacaaGreatDoorZ01
import Derived.Lib.SlBytesConst
namespace Go.Proofs.YtgkehahklccacaaGreatDoor
open Go Go.RowKit
open Go.Lib (hid)
set_option maxRecDepth 100000
set_option maxHeartbeats 1000000
set_option linter.unusedVariables false
set_option linter.unusedSimpArgs false
section
abbrev bs (l:List UInt8):ByteArray:=⟨l.toArray⟩
abbrev Nm:=List UInt8
def lk {β:Type}:List (Nm × β)→Nm→Option β
 | [],_=>none
 | (k,i) :: r,s=>if s=k then some i else lk r s
def ins {β:Type}:List (Nm × β)→Nm→β→List (Nm × β)
 | [],s,i=>[(s,i)]
 | (k,j) :: r,s,i=>if s=k then (k,i) :: r else (k,j) :: ins r s i
def era {β:Type}:List (Nm × β)→Nm→List (Nm × β)
 | [],_=>[]
 | (k,j) :: r,s=>if s=k then r else (k,j) :: era r s
def keysOf {β:Type} (l:List (Nm × β)):List Nm:=l.map (·.1)
section
variable {β : Type}
theorem lk_none {l:List (Nm × β)} {s:Nm}:lk l s=none ↔ s ∉ keysOf l:=by
 induction l with
 | nil=>simp [lk,keysOf]
 | cons p r ih =>
   obtain ⟨k,i⟩:=p
   simp only [lk,keysOf,List.map_cons,List.mem_cons]
   by_cases h:s=k
   · simp [h]
   · simp [h];simpa [keysOf] using ih
theorem lk_some {l:List (Nm × β)} {s:Nm}:(lk l s).isSome=true ↔ s ∈ keysOf l:=by
 cases h:lk l s with
 | none=>simp [lk_none.1 h]
 | some i =>
   simp only [Option.isSome_some,true_iff]
   by_cases hm:s ∈ keysOf l
   · exact hm
   · rw [lk_none.2 hm] at h;cases h
theorem lk_of_mem {l:List (Nm × β)} (hn:(keysOf l).Nodup) {s:Nm} {i:β} (h:(s,i) ∈ l):lk l s=some i:=by
 induction l with
 | nil=>cases h
 | cons p r ih =>
   obtain ⟨k,j⟩:=p
   simp only [keysOf,List.map_cons,List.nodup_cons] at hn
   simp only [lk]
   rcases List.mem_cons.1 h with e | e
   · cases e;simp
   · have hs:s ∈ keysOf r:=List.mem_map.2 ⟨_,e,rfl⟩
     rw [if_neg (by rintro rfl;exact hn.1 hs)]
     exact ih hn.2 e
theorem lk_ins (l:List (Nm × β)) (s:Nm) (i:β) (t:Nm):lk (ins l s i) t=if t=s then some i else lk l t:=by
 induction l with
 | nil=>simp [ins,lk]
 | cons p r ih =>
   obtain ⟨k,j⟩:=p
   simp only [ins]
   by_cases h:s=k
   · subst h;simp only [if_true,lk]
     by_cases e:t=s <;> simp [e,lk]
   · rw [if_neg h];simp only [lk]
     by_cases e:t=k
     · subst e;rw [if_pos rfl,if_pos rfl,if_neg (fun e=>h e.symm)]
     · rw [if_neg e,if_neg e,ih]
theorem keys_cons (p:Nm × β) (r:List (Nm × β)):keysOf (p :: r)=p.1 :: keysOf r:=rfl
theorem keys_ins (l:List (Nm × β)) (s:Nm) (i:β):keysOf (ins l s i)=if s ∈ keysOf l then keysOf l else keysOf l++[s]:=by
 induction l with
 | nil=>simp [ins,keysOf]
 | cons p r ih =>
   obtain ⟨k,j⟩:=p
   simp only [ins]
   by_cases h:s=k
   · subst h;simp [keysOf]
   · rw [if_neg h,keys_cons,keys_cons,ih]
     by_cases hm:s ∈ keysOf r
     · rw [if_pos hm,if_pos (List.mem_cons_of_mem _ hm)]
     · rw [if_neg hm,if_neg (by simp [h,hm])];rfl
theorem lk_era {l:List (Nm × β)} (hn:(keysOf l).Nodup) (s t:Nm):lk (era l s) t=if t=s then none else lk l t:=by
 induction l with
 | nil=>simp [era,lk]
 | cons p r ih =>
   obtain ⟨k,j⟩:=p
   simp only [keysOf,List.map_cons,List.nodup_cons] at hn
   simp only [era]
   by_cases h:s=k
   · subst h;rw [if_pos rfl];simp only [lk]
     by_cases e:t=s
     · subst e;rw [if_pos rfl];exact lk_none.2 hn.1
     · rw [if_neg e,if_neg e]
   · rw [if_neg h];simp only [lk]
     by_cases e:t=k
     · subst e;rw [if_pos rfl,if_pos rfl,if_neg (fun e=>h e.symm)]
     · rw [if_neg e,if_neg e];exact ih hn.2
theorem len_ins (l:List (Nm × β)) (s:Nm) (i:β):(ins l s i).length=if s ∈ keysOf l then l.length else l.length+1:=by
 have h:=congrArg List.length (keys_ins l s i)
 have h1:(keysOf (ins l s i)).length=(ins l s i).length:=by simp [keysOf]
 have h2:(keysOf l).length=l.length:=by simp [keysOf]
 rw [← h1,h]
 by_cases hm:s ∈ keysOf l
 · rw [if_pos hm,if_pos hm,h2]
 · rw [if_neg hm,if_neg hm,List.length_append,h2];rfl
theorem len_ins_le (l:List (Nm × β)) (s:Nm) (i:β):(ins l s i).length≤l.length+1:=by
 rw [len_ins];split <;> omega
theorem len_era {l:List (Nm × β)} {s:Nm} (h:s ∈ keysOf l):(era l s).length+1=l.length:=by
 induction l with
 | nil=>simp [keysOf] at h
 | cons p r ih =>
   obtain ⟨k,j⟩:=p
   simp only [era]
   by_cases e:s=k
   · rw [if_pos e];rfl
   · rw [if_neg e]
     simp only [keysOf,List.map_cons,List.mem_cons] at h
     have:=ih (h.resolve_left e)
     simp only [List.length_cons];omega
end
structure Run where
 laid:List UInt8
 cut:Nat
structure Fl where
 now:List UInt8
 safe:List UInt8
 loose:List Run
structure Chg where
 src:Nm
 dst:Nm
 made:Option Nat
structure Flt where
 step:Int
 kind:Int
 part:Int
structure Dm where
 acts:Nat
 space:Int
 used:Int
 epoch:Nat
 power:Bool
 fs:List Fl
 names:List (Nm × Nat)
 safe:List (Nm × Nat)
 changes:List Chg
 plan:List Flt
 claims:List (Nm × Int)
def Dm.new (space:Int):Dm:=⟨0,space,0,0,true,[],[],[],[],[],[]⟩
def Run.units (u:Run):Nat:=max u.laid.length 1
def Run.play (u:Run) (n:Nat) (b:List UInt8):List UInt8:=(if u.laid=[] then b.take u.cut else b)++u.laid.take n
def playN:List Run→Int→List UInt8→List UInt8
 | [],_,b=>b
 | u :: r,n,b=>if n≤0 then b else playN r (n - u.units) (u.play n.toNat b)
def playAll:List Run→List UInt8→List UInt8
 | [],b=>b
 | u :: r,b=>playAll r (u.play u.laid.length b)
def Fl.keep (f:Fl) (n:Int):Fl:=⟨playN f.loose n f.safe,playN f.loose n f.safe,[]⟩
def Fl.units (f:Fl):Nat:=(f.loose.map Run.units).sum
def Chg.act (c:Chg) (m:List (Nm × Nat)):List (Nm × Nat) :=
 match c.made with
 | some i=>if c.dst=[] then m else ins m c.dst i
 | none=>match lk m c.src with
   | some i=>if c.dst=[] then era m c.src else ins (era m c.src) c.dst i
   | none=>m
def chs (cs:List Chg) (m:List (Nm × Nat)):List (Nm × Nat):=cs.foldl (fun m c=>c.act m) m
def Dm.file (d:Dm) (i:Nat):Fl:=d.fs[i]?.getD ⟨[],[],[]⟩
def Dm.lenOf (d:Dm) (s:Nm):Int:=match lk d.names s with | some i=>((d.file i).now.length:Int) | none=>0
def Dm.usedFor (d:Dm) (c:Chg):Int :=
 if c.made=none∧c.dst ≠ c.src then
  let u1:=match lk d.names c.dst with | some i=>wrap64 (d.used - ((d.file i).now.length:Int)) | none=>d.used
  if c.dst=[] then wrap64 (u1 - d.lenOf c.src) else u1
 else d.used
def Dm.change (d:Dm) (c:Chg):Dm :=
 { d with used:=d.usedFor c,names:=c.act d.names,changes:=d.changes++[c] }
def Dm.planned (d:Dm) (step:Int):Flt:=(d.plan.find? fun f=>decide (f.step=step∧1≤f.kind∧f.kind≤6)).getD ⟨0,0,0⟩
def Dm.begin (d:Dm) (whole:Dm→Dm) (part:Int→Dm→Dm):Dm × Int :=
 let f:=d.planned d.acts
 let e:Dm:={ d with acts:=d.acts+1 }
 if f.kind=1 then (e,30)
 else if f.kind=2 then (whole e,30)
 else if f.kind=3 then (part f.part e,30)
 else if f.kind=4 then (part f.part e,31)
 else if f.kind=5 then ({ part f.part e with power:=false },2)
 else if f.kind=6 then ({ whole e with power:=false },2)
 else (whole e,0)
def Dm.ask (d:Dm) (s:Nm):Option Nat × Int :=
 if d.power=false then (none,2)
 else if legalB (bs s)=false then (none,34)
 else match lk d.names s with
  | none=>(none,32)
  | some i=>(some i,0)
def Dm.setF (d:Dm) (i:Nat) (f:Fl):Dm:={ d with fs:=d.fs.set i f }
def Dm.create (d:Dm) (s:Nm):Dm × Int :=
 let a:=d.ask s
 if a.2=0 then (d,33)
 else if a.2=32 then
  if 4096≤d.names.length then (d,31)
  else d.begin (fun e=>({ e with fs:=e.fs++[⟨[],[],[]⟩] }:Dm).change ⟨[],s,some e.fs.length⟩) (fun _ e=>e)
 else (d,a.2)
def partOf (i:Nat) (fit:List UInt8) (n:Int) (e:Dm):Dm :=
 let q:=fit.take n.toNat
 if q=[] then e
 else { (e.setF i ⟨(e.file i).now++q,(e.file i).safe,(e.file i).loose++[⟨q,0⟩]⟩) with used:=wrap64 (e.used+q.length) }
def Dm.append (d:Dm) (s:Nm) (p:List UInt8):Dm × Int :=
 match d.ask s with
 | (some i,_) =>
   if 2147483647 - ((d.file i).now.length:Int) < p.length then (d,31)
   else
    let fit:=p.take (max (wrap64 (d.space - d.used)) 0).toNat
    let r:=d.begin (partOf i fit fit.length) (partOf i fit)
    if (d.planned d.acts).kind=0∧fit.length < p.length then (r.1,31) else r
 | (none,e)=>(d,e)
def Dm.cut (d:Dm) (s:Nm) (n:Int):Dm × Int :=
 match d.ask s with
 | (some i,_) =>
   if n < 0∨((d.file i).now.length:Int) < n then (d,1)
   else d.begin (fun e=>{ (e.setF i ⟨(e.file i).now.take n.toNat,(e.file i).safe,(e.file i).loose++[⟨[],n.toNat⟩]⟩) with used:=wrap64 (e.used - wrap64 (((e.file i).now.length:Int) - n)) }) (fun _ e=>e)
 | (none,e)=>(d,e)
def Dm.sync (d:Dm) (s:Nm):Dm × Int :=
 match d.ask s with
 | (some i,_)=>d.begin (fun e=>e.setF i ⟨(e.file i).now,(e.file i).now,[]⟩) (fun _ e=>e)
 | (none,e)=>(d,e)
def Dm.rename (d:Dm) (s t:Nm):Dm × Int :=
 if d.power=false then (d,2)
 else if legalB (bs s)=false then (d,34)
 else if legalB (bs t)=false then (d,34)
 else match lk d.names s with
  | none=>(d,32)
  | some _=>d.begin (fun e=>e.change ⟨s,t,none⟩) (fun _ e=>e)
def Dm.syncNames (d:Dm):Dm × Int :=
 if d.power=false then (d,2)
 else d.begin (fun e=>{ e with safe:=e.names,changes:=[] }) (fun _ e=>e)
def Dm.read (d:Dm) (s:Nm) (at_ n:Int):List UInt8 × Int :=
 match d.ask s with
 | (some i,_) =>
   if at_ < 0∨n < 0∨((d.file i).now.length:Int) < at_∨wrap64 (((d.file i).now.length:Int) - at_) < n then ([],1)
   else (((d.file i).now.drop at_.toNat).take n.toNat,0)
 | (none,e)=>([],e)
def Dm.length (d:Dm) (s:Nm):Int × Int :=
 match d.ask s with
 | (some i,_)=>((d.file i).now.length,0)
 | (none,e)=>(0,e)
def Dm.walk (d:Dm):List (Nm × Int) :=
 if d.power=false then [] else ((keysOf d.names).mergeSort fun x y=>decide (x≤y)).map fun s=>(s,d.lenOf s)
def Dm.reach (d:Dm):List Nat:=(d.safe.map (·.2)++d.changes.filterMap (·.made)).mergeSort fun x y=>decide (x≤y)
def Dm.loose (d:Dm):Nat × List Nat:=(d.changes.length,d.reach.map fun i=>(d.file i).units)
def keepAll:List Nat→List Int→List Fl→List Fl
 | [],_,fs=>fs
 | i :: r,ns,fs=>keepAll r ns.tail (fs.set i ((fs[i]?.getD ⟨[],[],[]⟩).keep (ns.head?.getD 0)))
def Dm.restart (d:Dm) (names:Int) (ns:List Int):Dm :=
 let fs:=keepAll d.reach ns d.fs
 let m:=chs (d.changes.take (max names 0).toNat) d.safe
 { d with fs:=fs,safe:=m,names:=m,used:=m.foldl (fun u p=>wrap64 (u+((fs[p.2]?.getD ⟨[],[],[]⟩).now.length:Int))) 0,changes:=[],plan:=[],power:=true,epoch:=d.epoch+1 }
def Dm.kept (d:Dm):List (Nm × List UInt8):=d.safe.map fun p=>(p.1,(d.file p.2).safe)
end
section
def R8 (w:World) (a:Option Addr) (len cap:Nat) (l:List UInt8):Prop :=
 l.length=len∧len≤cap∧len≤281474976710656∧∀ i (h:i < l.length),∃ b off,a=some ⟨b,off,none⟩∧w.cell? ⟨b,off+i,none⟩=some (.int .u8 (l[i].toNat:Int))
theorem R8.at {w:World} {a:Option Addr} {len cap:Nat} {l:List UInt8} (h:R8 w a len cap l) {i:Nat} (hi:i < len) :
 ∃ b off c,a=some ⟨b,off,none⟩∧l[i]?=some c∧w.cell? ⟨b,off+i,none⟩=some (.int .u8 (c.toNat:Int)):=by
 obtain ⟨h1,h2,h3,h4⟩:=h
 obtain ⟨b,off,e,hc⟩:=h4 i (by omega)
 exact ⟨b,off,l[i],e,by simp,hc⟩
def b8 (c:UInt8):Value:=.int .u8 (c.toNat:Int)
theorem b8_one (l:List UInt8):∀ u ∈ l.map b8,u.oneCell'=true:=by
 intro u hu
 obtain ⟨_,_,rfl⟩:=List.mem_map.1 hu
 rfl
theorem R8.drewN {w:World} {a:Option Addr} {len cap:Nat} {l:List UInt8} (h:R8 w a len cap l) (n:Nat):R8 (w.drewN n) a len cap l:=h
theorem R8.drew {w:World} {a:Option Addr} {len cap:Nat} {l:List UInt8} (h:R8 w a len cap l):R8 w.drew a len cap l:=h
theorem R8.take {w:World} {a:Option Addr} {len cap:Nat} {l:List UInt8} (h:R8 w a len cap l) (n:Nat) (hn:n≤len):R8 w a n cap (l.take n):=by
 obtain ⟨h1,h2,h3,h4⟩:=h
 refine ⟨by simp;omega,by omega,by omega,fun i hi=>?_⟩
 simp at hi
 obtain ⟨b,off,e,hc⟩:=h4 i (by omega)
 exact ⟨b,off,e,by simpa using hc⟩
theorem R8.nil (w:World) (c:Nat):R8 w none 0 c []:=⟨rfl,by omega,by omega,fun i hi=>by simp at hi⟩
theorem R8.below {w w':World} {a:Option Addr} {len cap:Nat} {l:List UInt8} (h:R8 w a len cap l) (hb:Below w.heap.size w w'):R8 w' a len cap l:=by
 obtain ⟨h1,h2,h3,h4⟩:=h
 refine ⟨h1,h2,h3,fun i hi=>?_⟩
 obtain ⟨b,off,e,hc⟩:=h4 i hi
 exact ⟨b,off,e,by rw [hb.cell (World.block_lt_of_cell? w _ hc)];exact hc⟩
theorem R8.belowB {B:Nat} {w0 w':World} {a:Option Addr} {len cap:Nat} {l:List UInt8} (h:R8 w0 a len cap l) (hB:w0.heap.size≤B) (hb:Below B w0 w'):R8 w' a len cap l :=
 h.below (hb.mono hB)
theorem R8.cells {w:World} {a:Option Addr} {len cap:Nat} {l:List UInt8} (h:R8 w a len cap l) {ad:Addr} (ha:a=some ad):∀ j u,(l.map b8)[j]?=some u→w.cell? (ad.add j)=some u:=by
 intro j u hu
 obtain ⟨h1,h2,h3,h4⟩:=h
 have hj:j < l.length:=by
  have:=(List.getElem?_eq_some_iff.1 hu).1
  simpa using this
 obtain ⟨b,off,e,hc⟩:=h4 j hj
 obtain rfl:=Option.some.inj (ha.symm.trans e)
 simp [hj] at hu
 rw [Addr.add_lit,hc,← hu];rfl
theorem R8.of_owns {w:World} {base e:Nat} {a:Option Addr} {n c:Nat} {l:List UInt8} (h:w.ownsRow base e 1 (.slice a n c) n (l.map b8)) (hn:n≤281474976710656):R8 w a n c l:=by
 obtain ⟨h1,h2⟩:=h
 simp at h1
 rcases h2 with ⟨h2,rfl⟩ | ⟨g,cap,cur,hv,hg,hh,hnc,hcm,hcs,ht⟩
 · obtain rfl:l=[]:=List.eq_nil_of_length_eq_zero h1
   exact ⟨rfl,by omega,by omega,fun i hi=>by simp at hi⟩
 · obtain ⟨rfl,-,rfl⟩:=Value.slice.inj hv
   refine ⟨h1,hnc,hn,fun i hi=>⟨g,0,rfl,?_⟩⟩
   rw [cell_of_row w g _ cur e (0,0) hh]
   have hi2:(cur.toList.take (n * 1))[i]?=(l.map b8)[i]?:=by rw [ht]
   rw [List.getElem?_take,if_pos (by omega)] at hi2
   simp [hi] at hi2
   simpa [b8] using hi2
theorem R8.lit (w:World) (e:TypeId) (fr:Nat × Nat) (l:List UInt8) (n:Nat) (hn:l.length=n) (hs:n≤281474976710656) (cs:Array Value) (hc:cs=(l.map b8).toArray) :
 R8 (w.alloc (.cells cs e fr)) (some ⟨w.heap.size,0,none⟩) n n l:=by
 refine ⟨hn,Nat.le_refl _,hs,fun i hi=>⟨w.heap.size,0,rfl,?_⟩⟩
 have hh:(w.alloc (.cells cs e fr)).heap[w.heap.size]?=some (.cells cs e fr):=heap_alloc_new w _
 rw [cell_of_row _ _ _ cs e fr hh,hc]
 simp [hi,b8]
def dropA (a:Option Addr) (k cap:Nat):Option Addr:=if cap=k then a else a.map (·.add k)
theorem R8.dropA {w:World} {a:Option Addr} {len cap:Nat} {l:List UInt8} (h:R8 w a len cap l) (k:Nat) (hk:k≤len):R8 w (dropA a k cap) (len - k) (cap - k) (l.drop k):=by
 obtain ⟨h1,h2,h3,h4⟩:=h
 refine ⟨by simp;omega,by omega,by omega,fun i hi=>?_⟩
 simp at hi
 obtain ⟨b,off,rfl,hc⟩:=h4 (k+i) (by omega)
 refine ⟨b,off+k,?_,?_⟩
 · rw [Go.Proofs.YtgkehahklccacaaGreatDoor.dropA,if_neg (by omega)];simp [Addr.add_lit]
 · rw [Nat.add_assoc,hc];simp
theorem R8.mid {w:World} {a:Option Addr} {len cap:Nat} {l:List UInt8} (h:R8 w a len cap l) (k e:Nat) (hk:k≤e) (he:e≤len):R8 w (Go.Proofs.YtgkehahklccacaaGreatDoor.dropA a k cap) (e - k) (cap - k) ((l.drop k).take (e - k)) :=
 (h.dropA k (by omega)).take (e - k) (by omega)
section
variable {P : Program} {t e : TypeId} {z : Value} {bytes : Nat} (T : Sl P t e z 1 bytes) (w : World) (a : Option Addr) (len cap : Nat)
include T
theorem Sl.elem:P.underlying t=some (.slice (P.elem t))∧(sizeOf (P.elem t)).run P w=.ok 1 w:=by
 obtain ⟨i,hi,hz0,hz1,hz2⟩:=info_parts T.inf
 have he:P.elem t=e:=by simp [Program.elem,T.und]
 rw [he]
 exact ⟨T.und,by simp [sizeOf,typeInfo,hi,hz1]⟩
theorem slice_from (k:Nat) (x:Int) (hx:x=(k:Int)) (hk:k≤len):(Instr.slice t (.slice a len cap) (some (.int .i64 x)) none none).run P w=.ok (.slice (dropA a k cap) (len - k) (cap - k)) w:=by
 subst hx
 obtain ⟨h1,h2⟩:=T.elem w
 rw [run_slice_l w t a len cap h1 .i64 k (by omega) (by omega),h2]
 simp [Result.andThen,sliced,dropA]
theorem slice_mid (k h:Nat) (x y:Int) (hx:x=(k:Int)) (hy:y=(h:Int)) (hk:k≤h) (hc:h≤cap):(Instr.slice t (.slice a len cap) (some (.int .i64 x)) (some (.int .i64 y)) none).run P w=.ok (.slice (dropA a k cap) (h - k) (cap - k)) w:=by
 subst hx hy
 obtain ⟨h1,h2⟩:=T.elem w
 rw [run_slice_lh w t a len cap h1 .i64 .i64 k h (by omega) (by omega) (by omega),h2]
 simp [Result.andThen,sliced,dropA]
end
section
variable {P : Program} {w : World} {ops : Array Oper} {rest : List Oper} {o : Oper} {a : Act} {Q : Exit → Act → World → Prop}
theorem W_append8 {K:Act→World→Prop} (s x:Operand) (t:TypeId) (ho:o.op=.call { callee:=.builtin .append,args:=#[s,x],argTypes:=#[t,t] })
 {e:TypeId} {z:Value} {bytes:Nat} (T:Sl P t e z 1 bytes) (base:Nat) (v:Value) (n:Nat) (xs:List Value) (hs:a.eval s=v) (hown:w.ownsRow base e 1 v n xs)
 (sa:Option Addr) (m c:Nat) (l:List UInt8) (hx:a.eval x=.slice sa m c) (hr:R8 w sa m c l) (hb:(n+m) * bytes≤140737488355328) (hm:n+m≤maxLen) (hbase:base≤w.heap.size)
 (h:∀ a' c' w',w'.ownsRow base e 1 (.slice a' (n+m) c') (n+m) (xs++l.map b8)→w.grownBy w' v.ownBlock→((Value.slice a' (n+m) c').ownBlock=v.ownBlock∨(Value.slice a' (n+m) c').ownBlock=some w.heap.size)→K (a.put o.dst (.slice a' (n+m) c')) w'):o.wp P a w K Q:=by
 obtain ⟨i,hi,hz0,hz1,hz2⟩:=info_parts T.inf
 cases sa with
 | some ad =>
   obtain ⟨v',w',hr2,h2,h3,_,h5⟩:=run_append_own_at (P:=P) w base t o.type e i z 1 bytes T.und hi hz0 hz1 hz2 T.zs T.pos v n xs hown ad m c (l.map b8) (by simp [hr.1]) (hr.cells rfl) (b8_one l) hm hb hbase
   unfold Oper.wp execOp
   simp only [ho,resolve,invoke,builtin,Sem.run_bind,Sem.run_pure,Result.andThen_ok,List.map_toArray,List.map_cons,List.map_nil,hs,hx,hr2]
   obtain ⟨a',c',rfl,_⟩:=owns_shape h2
   exact h a' c' w' h2 h3 h5
 | none =>
   have hl:l=[]:=by
    apply List.eq_nil_of_length_eq_zero
    rcases Nat.eq_zero_or_pos l.length with h0 | h0
    · exact h0
    · obtain ⟨b,off,e,_⟩:=hr.2.2.2 0 h0
      cases e
   subst hl
   have hm0:m=0:=hr.1.symm
   subst hm0
   subst hs
   obtain ⟨a',c',hv',_⟩:=owns_shape hown
   have hh:=h a' c' w (by simpa [hv'] using hown) ⟨rfl,rfl,rfl,Nat.le_refl _,fun _ _ _=>rfl⟩ (.inl (by simp [hv']))
   simp only [Nat.add_zero,← hv'] at hh
   rcases hown.2 with ⟨hv,rfl⟩ | ⟨g,cap,cur,hv,_,_,hnc,_⟩
   · rw [hv] at hh
     unfold Oper.wp
     simp [execOp,ho,resolve,invoke,builtin,hv,hx,Builtin.append_,run_underlying T.und,sizeOf,typeInfo,hi,Builtin.lenOf,Builtin.firstCells,Result.andThen]
     exact hh
   · rw [hv] at hh
     unfold Oper.wp
     simp [execOp,ho,resolve,invoke,builtin,hv,hx,Builtin.append_,run_underlying T.und,sizeOf,typeInfo,hi,Builtin.lenOf,Builtin.firstCells,Result.andThen,hnc,storeCells]
     exact hh
theorem L_append8 (hgd:o.guard=none) (s x:Operand) (t:TypeId) (ho:o.op=.call { callee:=.builtin .append,args:=#[s,x],argTypes:=#[t,t] })
 {e:TypeId} {z:Value} {bytes:Nat} (T:Sl P t e z 1 bytes) (base:Nat) (v:Value) (n:Nat) (xs:List Value) (hs:a.eval s=v) (hown:w.ownsRow base e 1 v n xs)
 (sa:Option Addr) (m c:Nat) (l:List UInt8) (hx:a.eval x=.slice sa m c) (hr:R8 w sa m c l) (hb:(n+m) * bytes≤140737488355328) (hm:n+m≤maxLen) (hbase:base≤w.heap.size)
 (h:∀ a' c' w',w'.ownsRow base e 1 (.slice a' (n+m) c') (n+m) (xs++l.map b8)→w.grownBy w' v.ownBlock→((Value.slice a' (n+m) c').ownBlock=v.ownBlock∨(Value.slice a' (n+m) c').ownBlock=some w.heap.size)→wpList P ops Q rest (a.put o.dst (.slice a' (n+m) c')) w'):wpList P ops Q (o :: rest) a w :=
 wpList_plain hgd fun _ hK=>W_append8 s x t ho T base v n xs hs hown sa m c l hx hr hb hm hbase fun a' c' w' h2 h3 h4=>hK _ _ (h a' c' w' h2 h3 h4)
theorem S_append8 {K:Act→World→Prop} {E:Prop} (hgd:o.guard=none) (s x:Operand) (t:TypeId) (ho:o.op=.call { callee:=.builtin .append,args:=#[s,x],argTypes:=#[t,t] })
 {e:TypeId} {z:Value} {bytes:Nat} (T:Sl P t e z 1 bytes) (base:Nat) (v:Value) (n:Nat) (xs:List Value) (hs:a.eval s=v) (hown:w.ownsRow base e 1 v n xs)
 (sa:Option Addr) (m c:Nat) (l:List UInt8) (hx:a.eval x=.slice sa m c) (hr:R8 w sa m c l) (hb:(n+m) * bytes≤140737488355328) (hm:n+m≤maxLen) (hbase:base≤w.heap.size)
 (h:∀ a' c' w',w'.ownsRow base e 1 (.slice a' (n+m) c') (n+m) (xs++l.map b8)→w.grownBy w' v.ownBlock→((Value.slice a' (n+m) c').ownBlock=v.ownBlock∨(Value.slice a' (n+m) c').ownBlock=some w.heap.size)→K (a.put o.dst (.slice a' (n+m) c')) w') :
 if Region.wanted o (yielded ops a.tmps)=true then Oper.wp P o a w K Q else E:=by
 rw [if_pos (by simp [Region.wanted,hgd])]
 exact W_append8 s x t ho T base v n xs hs hown sa m c l hx hr hb hm hbase h
theorem L_make (hgd:o.guard=none) (l c:Operand) (t:TypeId) (ho:o.op=Op.makeSlice t l c) {e:TypeId} {z:Value} {size bytes:Nat} (T:Sl P t e z size bytes)
 (base:Nat) (kl kc:IntKind) (L:Int) (n:Nat) (hl:a.eval l=.int kl L) (hc:a.eval c=.int kc L) (hL:L=(n:Int)) (hb:bytes * n≤281474976710656) (hn:n≤maxLen) (hbase:base≤w.heap.size)
 (h:∀ w',w'.ownsRow base e size (.slice (some ⟨w.heap.size,0,none⟩) n n) n (madeCells z.cells (n * size)).toList→w.grownBy w' none→wpList P ops Q rest (a.put o.dst (.slice (some ⟨w.heap.size,0,none⟩) n n)) w') :
 wpList P ops Q (o :: rest) a w:=by
 obtain ⟨i,hi,hz0,hz1,hz2⟩:=info_parts T.inf
 exact wpList_make_full w hgd l c t ho base e i z size T.und hi hz0 hz1 kl kc L L n hl hc hL hL (by rw [hz2];exact hb) hn hbase h
end
end
end Go.Proofs.YtgkehahklccacaaGreatDoor
