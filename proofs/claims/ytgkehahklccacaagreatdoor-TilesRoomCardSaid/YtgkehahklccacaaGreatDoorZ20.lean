import Derived.Test.YtgkehahklccacaaGreatDoorZ19
import Derived.Test.YtgkehahklccacaaGreatDoorZ10
import Derived.WideKeyPair
import Derived.DeepKeys4
import Derived.WideKeyEntry
import Derived.Maps.Own
import Derived.Maps.OwnSet
import Derived.Maps.Views
import Derived.Test.YtgkehahklccacaaGreatDoorZ01
import Derived.Deep.RegionHeld3
import Derived.IntWalk
import Derived.Deep.MidRow
import Derived.Great.BuildSlice
namespace Go.Proofs.YtgkehahklccacaaGreatDoor
open Go Go.RowKit
open Go.Lib (hid)
set_option maxRecDepth 100000
set_option maxHeartbeats 1000000
set_option linter.unusedVariables false
set_option linter.unusedSimpArgs false
section
open Go.Maps Go.WideMaps
theorem power_any (w:World) (L:Lay) (gd:Nat) (d:Dm) (h:DAt w L gd d):Calls Tryz.prog 15 #[.pointer (some ⟨gd,0,none⟩)] w fun e w'=>e=.returned (.bool d.power)∧w'=w:=by
 have c:=h.cells.2.2.2.2.2.1
 have HH:=hid h
 clear h
 go_enter Tryz.func15,Tryz.ntmps15
 go_wp2_with fail
 go_ret
 exact ⟨rfl,rfl⟩
theorem epoch_any (w:World) (L:Lay) (gd:Nat) (d:Dm) (h:DAt w L gd d):Calls Tryz.prog 56 #[.pointer (some ⟨gd,0,none⟩)] w fun e w'=>e=.returned (.int .i64 d.epoch)∧w'=w:=by
 have c:=h.cells.2.2.2.2.1
 have HH:=hid h
 clear h
 go_enter Tryz.func56,Tryz.ntmps56
 go_wp2_with fail
 go_ret
 exact ⟨rfl,rfl⟩
theorem newdisk_any (w:World) (space:Int) (h0:0≤space) (h1:space≤1099511627776):Calls Tryz.prog 10 #[.int .i64 space] w fun e w'=>Below w.heap.size w w'∧∃ L gd,e=.returned (.tuple #[.pointer (some ⟨gd,0,none⟩),.nilIface])∧DAt w' L gd (Dm.new space)∧∀ k,k < w.heap.size→L.ρ k=0:=by
 have hmm:=@run_makeMap Tryz.prog
 go_enter Tryz.func10,Tryz.ntmps10
 go_wp2_with fail
 go_ret2
 obtain ⟨w1,hw1⟩:∃ w1,w1=w.alloc (.map #[] 0):=⟨_,rfl⟩
 obtain ⟨w2,hw2⟩:∃ w2,w2=w1.alloc (.map #[] 0):=⟨_,rfl⟩
 obtain ⟨w3,hw3⟩:∃ w3,w3=w2.alloc (.map #[] 0):=⟨_,rfl⟩
 have z1:w1.heap.size=w.heap.size+1:=by rw [hw1];simp
 have z2:w2.heap.size=w.heap.size+2:=by rw [hw2];simp [z1]
 have z3:w3.heap.size=w.heap.size+3:=by rw [hw3];simp [z2]
 have m1:w1.ownsMap Tryz.prog 9 ptrR w.heap.size 0 (.map []):=by rw [hw1];exact World.ownsMap_made w Tryz.prog 9 ptrR
 have m2:w2.ownsMap Tryz.prog 9 ptrR w1.heap.size 0 (.map []):=by rw [hw2];exact World.ownsMap_made w1 Tryz.prog 9 ptrR
 have m3:w3.ownsMap Tryz.prog 9 (plainElem Tryz.prog 3) w2.heap.size 0 (.map []:DataW Unit):=by rw [hw3];exact World.ownsMap_made w2 Tryz.prog 9 _
 rw [z1] at m2
 rw [z2] at m3
 let L:Lay:=⟨put1 (put1 (put1 (put1 (fun _=>0) (w.heap.size+3) 1) w.heap.size 2) (w.heap.size+1) 3) (w.heap.size+2) 4,fun _=>0,w.heap.size,w.heap.size+1,w.heap.size+2,.slice none 0 0,.slice none 0 0⟩
 have hρ:∀ k,L.ρ k=if k=w.heap.size+2 then 4 else if k=w.heap.size+1 then 3 else if k=w.heap.size then 2 else if k=w.heap.size+3 then 1 else 0:=fun k=>rfl
 have hw4:(((w.alloc (.map #[] 0)).alloc (.map #[] 0)).alloc (.map #[] 0))=w3:=by rw [hw3,hw2,hw1]
 rw [hw4]
 have hbb:∀ {B:Nat} {x:World} (o:Obj),Below B w x→B≤x.heap.size→Below B w (x.alloc o):=fun o hx hB=>hx.alloc hB o
 have b3:Below w.heap.size w w3:=by
  rw [hw3];refine hbb _ ?_ (by omega)
  rw [hw2];refine hbb _ ?_ (by omega)
  rw [hw1];exact bel1 _ _
 obtain ⟨w4,hw4⟩:∃ w4,w4=w3.alloc (boxDisk L (Dm.new space)):=⟨_,rfl⟩
 have g4:w4.heap[w.heap.size+3]?=some (boxDisk L (Dm.new space)):=by rw [hw4,← z3];exact heap_alloc_new w3 _
 have b34:Below w3.heap.size w3 w4:=by rw [hw4];exact bel1 _ _
 have z4:w4.heap.size=w.heap.size+4:=by rw [hw4];simp [z3]
 have hb23:Below w2.heap.size w2 w3:=by rw [hw3];exact bel1 _ _
 have hb12:Below w1.heap.size w1 w2:=by rw [hw2];exact bel1 _ _
 have b24:=hb23.trans (b34.mono hb23.size)
 have b14:=hb12.trans (b24.mono hb12.size)
 have e4:w3.alloc (.cells #[.int .i64 0,.int .i64 space,.int .i64 0,.int .i64 0,.int .i64 0,.bool true,.map (some w.heap.size),.map (some (w.heap.size+1)),.slice none 0 0,.slice none 0 0,.map (some (w.heap.size+1+1))] 52)=w4:=hw4.symm
 rw [e4]
 refine ⟨b3.trans (b34.mono b3.size),L,w.heap.size+3,rfl,?_,fun k hk=>by rw [hρ];repeat rw [if_neg (by omega)]⟩
 refine ⟨g4,?_,fun k hk=>?_,⟨.map [],m1.kept (gwk b14) (by simp),?_,rfl,fun s=>⟨rfl,rfl⟩⟩,⟨.map [],m2.kept (gwk b24) (by simp),?_,rfl,fun s=>⟨rfl,rfl⟩⟩,⟨.map [],m3.kept (gwk b34) (by simp),?_,fun s=>⟨rfl,rfl⟩⟩,OwnL.nil _ _ _ _ _,PlAt.nil _ _,fun i f hf=>by simp [Dm.new] at hf⟩
 · rw [hρ,if_neg (by omega),if_neg (by omega),if_neg (by omega),if_pos rfl]
 · rw [hρ] at hk
   rw [z4]
   by_cases e1:k=w.heap.size+2
   · omega
   · rw [if_neg e1] at hk
     by_cases e2:k=w.heap.size+1
     · omega
     · rw [if_neg e2] at hk
       by_cases e3:k=w.heap.size
       · omega
       · rw [if_neg e3] at hk
         by_cases e4:k=w.heap.size+3
         · omega
         · rw [if_neg e4] at hk;exact absurd rfl hk
 · show L.ρ w.heap.size=2
   rw [hρ,if_neg (by omega),if_neg (by omega),if_pos rfl]
 · show L.ρ (w.heap.size+1)=3
   rw [hρ,if_neg (by omega),if_pos rfl]
 · show L.ρ (w.heap.size+2)=4
   rw [hρ,if_pos rfl]
end
section
open Go.Maps Go.WideMaps
end
section
open Go.Maps Go.WideMaps
def RI (w:World) (a:Option Addr) (n:Nat) (l:List Nat):Prop:=l.length=n∧n≤1099511631873∧∀ j x,l[j]?=some x→∃ b off,a=some ⟨b,off,none⟩∧w.cell? ⟨b,off+j,none⟩=some (nV x)
theorem RI.of_owns {w:World} {B n c:Nat} {a:Option Addr} {l:List Nat} (h:w.ownsRow B 3 1 (.slice a n c) n (l.map nV)) (hn:n≤1099511631873):RI w a n l:=by
 have hl:l.length=n:=by have:=h.1;simpa using this
 refine ⟨hl,hn,fun j x hx=>?_⟩
 obtain ⟨a0,c0,hv,hg⟩:=owns_shape h
 injection hv with h1 _ h3
 subst h1 h3
 have hj:=(List.getElem?_eq_some_iff.1 hx).1
 obtain ⟨g,rfl,-,-⟩:=hg (by omega)
 have he:l.map nV=l.flatMap fun x=>[nV x]:=List.map_eq_flatMap
 rw [he] at h
 have:=own_at (enc:=fun x=>[nV x]) (s:=1) (fun _=>rfl) h hx 0 _ rfl
 exact ⟨g,0,rfl,by simpa using this⟩
end
section
open Go.Maps Go.WideMaps
end
section
open Go.Maps Go.WideMaps
end
section
open Go.Maps Go.WideMaps
theorem playAll_snoc (l:List Run) (u:Run):∀ b:List UInt8,playAll (l++[u]) b=u.play u.laid.length (playAll l b):=by
 induction l with
 | nil=>intro b;rfl
 | cons x r ih=>intro b;rw [List.cons_append,playAll,playAll,ih]
theorem play_full_len (u:Run) (b:List UInt8) (h:u.laid=[]→u.cut≤b.length):(u.play u.laid.length b).length=(if u.laid=[] then u.cut else b.length)+u.laid.length:=by
 unfold Run.play
 rw [List.length_append,List.length_take,Nat.min_self]
 by_cases hl:u.laid=[]
 · rw [if_pos hl,if_pos hl,List.length_take,Nat.min_eq_left (h hl)]
 · rw [if_neg hl,if_neg hl]
theorem okR_snoc (l:List Run) (u:Run):∀ b:List UInt8,okR l b.length→(u.laid=[]→u.cut≤(playAll l b).length)→(if u.laid=[] then u.cut else (playAll l b).length)+u.laid.length≤2147483647→okR (l++[u]) b.length:=by
 induction l with
 | nil=>intro b h h1 h2;exact ⟨h,h1,h2⟩
 | cons x r ih =>
   intro b h h1 h2
   obtain ⟨a1,a2,a3⟩:=h
   refine ⟨a1,a2,?_⟩
   have hl:=play_full_len x b a2
   rw [← hl] at a3 ⊢
   exact ih _ a3 h1 h2
theorem playN_all (l:List Run):∀ (n:Int) (b:List UInt8),((l.map Run.units).sum:Int)≤n→playN l n b=playAll l b:=by
 induction l with
 | nil=>intro n b _;rfl
 | cons u r ih =>
   intro n b h
   rw [List.map_cons,List.sum_cons] at h
   have hu:1≤u.units∧u.laid.length≤u.units:=by unfold Run.units;omega
   have hn:¬ n≤0:=by push_cast at h;omega
   rw [playN,if_neg hn,playAll,ih _ _ (by push_cast at h ⊢;omega)]
   congr 1
   unfold Run.play
   rw [List.take_of_length_le (show u.laid.length≤n.toNat by push_cast at h;omega),List.take_length]
end
section
open Go.Maps Go.WideMaps Go.ChangeMaps
theorem laidOutT:laidOutB Tryz.prog=true:=by kernel_rfl
theorem row121:(121:TypeId) < Tryz.prog.types.size:=of_decide_eq_true (by kernel_rfl)
theorem wide121:(match Tryz.prog.underlying 121 with | some (.array _ _) | some (.struct _)=>true | _=>false)=true:=by rw [Tryz.underlying121]
theorem klaw121:WideMaps.KeyLaw Tryz.prog 121:=deep_law_laid laidOutT (m:=2) (by omega) row121 (by kernel_rfl) wide121
theorem law121:Keyed Tryz.prog 121:=Keyed.of_law klaw121
theorem arr121:ArrKey Tryz.prog 121 3 2:=by constructor <;> kernel_rfl
abbrev keyV (l j:Nat):Value:=.agg #[.int .i64 (l:Int),.int .i64 (j:Int)]
def kl2 (l j:Nat):Lit:=.string (keyBytes [.int .i64 (l:Int),.int .i64 (j:Int)])
theorem wf64 (n:Nat) (h:n < 1099511627776):(Lit.int .i64 (n:Int)).wf=true:=WalkArith.wf_i64 (by omega)
theorem key121 {l j:Nat} (hl:l < 1099511627776) (hj:j < 1099511627776):keyOf Tryz.prog 121 (keyV l j)=some (kl2 l j) :=
 keyOf_pair arr121 Tryz.underlying3 ⟨_,(Nat.succ_pred_eq_of_pos (Nat.lt_of_le_of_lt (Nat.zero_le _) row121)).symm⟩ (wf64 l hl) (wf64 j hj)
theorem kl2_inj {l j l' j':Nat} (hl:l < 1099511627776) (hj:j < 1099511627776) (hl':l' < 1099511627776) (hj':j' < 1099511627776) (h:kl2 l j=kl2 l' j'):l=l'∧j=j':=by
 have:=law121.inj (key121 hl hj) (by rw [h];exact key121 hl' hj')
 simp only [Value.agg.injEq,Array.mk.injEq,List.cons.injEq,Value.int.injEq,true_and,and_true] at this
 omega
theorem iskey (l j:Nat):WideAt.IsKeyLit (kl2 l j):=trivial
theorem zero23 (w:World):(zeroValue 23).run Tryz.prog w=.ok (.slice none 0 0) w:=by kernel_rfl
def MAt (w:World) (b n:Nat) (M:Nat→Nat→Sc):Prop:=∃ D:DataW Unit,w.ownsMap Tryz.prog 121 sliceR b n D∧∀ l j,l < 1099511627776→j < 1099511627776→D.atKey (kl2 l j) .nil=scD (M l j)∧has D (kl2 l j)=(M l j).isSome
def put2 (M:Nat→Nat→Sc) (l j:Nat) (c:Sc):Nat→Nat→Sc:=fun l' j'=>if l'=l∧j'=j then c else M l' j'
theorem put2_same (M:Nat→Nat→Sc) (l j:Nat) (c:Sc):put2 M l j c l j=c:=by unfold put2;rw [if_pos ⟨rfl,rfl⟩]
theorem put2_other {M:Nat→Nat→Sc} {l j l' j':Nat} (c:Sc) (h:¬ (l'=l∧j'=j)):put2 M l j c l' j'=M l' j':=by unfold put2;rw [if_neg h]
section
variable {w w' : World} {b n : Nat} {M : Nat → Nat → Sc}
theorem MAt.lt (h:MAt w b n M):b < w.heap.size:=by
 obtain ⟨D,h1,-⟩:=h
 exact h1.lt
theorem MAt.keep (h:MAt w b n M) (hk:w'.heap[b]?=w.heap[b]?):MAt w' b n M:=by
 obtain ⟨D,⟨es,ck,hb,hr⟩,h3⟩:=h
 exact ⟨D,⟨es,ck,hk.trans hb,hr⟩,h3⟩
theorem MAt.look (h:MAt w b n M) {l j:Nat} (hl:l < 1099511627776) (hj:j < 1099511627776):(Instr.lookup 95 (.map (some b)) (keyV l j) false).run Tryz.prog w=.ok (encS (M l j)) w:=by
 obtain ⟨D,h1,h2⟩:=h
 obtain ⟨v,ps,hrun,hv⟩:=h1.lookup law121 Tryz.underlying95 (zero23 w) (zd:=.nil) (zp:=[]) rfl (key121 hl hj)
 obtain ⟨c,rfl⟩:=sliceR_inv hv
 rw [sliceR_enc,(h2 l j hl hj).1] at hv
 have:=scD_inj (Prod.mk.inj (Option.some.inj hv)).1
 rw [hrun,this]
theorem MAt.look_ok (h:MAt w b n M) {l j:Nat} (hl:l < 1099511627776) (hj:j < 1099511627776):(Instr.lookup 95 (.map (some b)) (keyV l j) true).run Tryz.prog w=.ok (.tuple #[encS (M l j),.bool (M l j).isSome]) w:=by
 obtain ⟨D,h1,h2⟩:=h
 obtain ⟨v,ps,hrun,hv⟩:=h1.look_ok law121 Tryz.underlying95 (zero23 w) (zd:=.nil) (zp:=[]) rfl (key121 hl hj)
 obtain ⟨c,rfl⟩:=sliceR_inv hv
 rw [sliceR_enc,(h2 l j hl hj).1] at hv
 have:=scD_inj (Prod.mk.inj (Option.some.inj hv)).1
 rw [hrun,this,(h2 l j hl hj).2]
theorem putD {D:DataW Unit} (hT:Tidy D) (h2:∀ l j,l < 1099511627776→j < 1099511627776→D.atKey (kl2 l j) .nil=scD (M l j)∧has D (kl2 l j)=(M l j).isSome) {l j:Nat} (hl:l < 1099511627776) (hj:j < 1099511627776) (p:Nat × Nat × Nat) :
 ∀ l' j',l' < 1099511627776→j' < 1099511627776→(D.put (kl2 l j) (scD (some p))).atKey (kl2 l' j') .nil=scD (put2 M l j (some p) l' j')∧has (D.put (kl2 l j) (scD (some p))) (kl2 l' j')=(put2 M l j (some p) l' j').isSome:=by
 intro l' j' hl' hj'
 by_cases e:l'=l∧j'=j
 · obtain ⟨rfl,rfl⟩:=e
   rw [put2_same]
   exact ⟨atKey_put_same hT.isMap (iskey _ _) _ _,has_put_same hT.isMap (iskey _ _) _⟩
 · have hne:kl2 l' j' ≠ kl2 l j:=fun h=>e (kl2_inj hl' hj' hl hj h)
   rw [put2_other _ e]
   exact ⟨(atKey_put_other hne _ _).trans (h2 l' j' hl' hj').1,(has_put_other hne _).trans (h2 l' j' hl' hj').2⟩
theorem MAt.update (h:MAt w b n M) (hn:n < maxLen) {l j:Nat} (hl:l < 1099511627776) (hj:j < 1099511627776) (p:Nat × Nat × Nat):∃ w',(Instr.mapUpdate 95 (.map (some b)) (keyV l j) (encS (some p))).run Tryz.prog w=.ok () w'∧MAt w' b (n+1) (put2 M l j (some p))∧w.grownBy w' (some b):=by
 obtain ⟨D,h1,h2⟩:=h
 obtain ⟨w',hrun,h3,h4⟩:=h1.update law121 Tryz.underlying95 hn (key121 hl hj) (sliceR_enc (some p))
 exact ⟨w',hrun,⟨_,h3,putD (h1.tidy law121) h2 hl hj p⟩,h4⟩
theorem MAt.del (h:MAt w b n M) {l j:Nat} (hl:l < 1099511627776) (hj:j < 1099511627776) (ty:TypeId):∃ w',(Builtin.delete_ #[95,121] ty #[.map (some b),keyV l j]).run Tryz.prog w=.ok (.tuple #[]) w'∧MAt w' b n (put2 M l j none)∧w.grownBy w' (some b):=by
 obtain ⟨D,h1,h2⟩:=h
 obtain ⟨w',hrun,h3,h4⟩:=h1.drop law121 Tryz.underlying95 (key121 hl hj) ty
 refine ⟨w',hrun,⟨_,h3,fun l' j' hl' hj'=>?_⟩,h4.grown⟩
 by_cases e:l'=l∧j'=j
 · obtain ⟨rfl,rfl⟩:=e
   rw [put2_same]
   exact ⟨atKey_del_same _,has_del_same⟩
 · have hne:kl2 l' j' ≠ kl2 l j:=fun h=>e (kl2_inj hl' hj' hl hj h)
   rw [put2_other _ e]
   exact ⟨(atKey_del_other hne _).trans (h2 l' j' hl' hj').1,(has_del_other hne).trans (h2 l' j' hl' hj').2⟩
theorem MAt.entry (h:MAt w b n M) (hn:n < maxLen) {l j:Nat} (hl:l < 1099511627776) (hj:j < 1099511627776) :
 ∃ (st:Value) (w1:World),(Instr.mapEntry 95 (.map (some b)) (keyV l j)).run Tryz.prog w=.ok (.tuple #[encS (M l j),st]) w1∧w.grownBy w1 (some b) ∧
   ∀ (p:Nat × Nat × Nat) (w2:World),w2.heap[b]?=w1.heap[b]?→∃ w3,(Instr.entryStore 95 (.map (some b)) st (encS (some p))).run Tryz.prog w2=.ok () w3∧MAt w3 b (n+1) (put2 M l j (some p))∧w2.grownBy w3 (some b):=by
 have hlook:=h.look hl hj
 obtain ⟨D,h1,h2⟩:=h
 have hT:=h1.tidy law121
 have hup:=fun p:Nat × Nat × Nat=>h1.update law121 Tryz.underlying95 hn (key121 hl hj) (sliceR_enc (some p))
 obtain ⟨es,clock,hb,F,hz,hD⟩:=h1
 obtain ⟨v0,st,es1,clock1,hrun,hv0,hst⟩:=WideElems.entry_then_store klaw121 Tryz.underlying95 zero23 hb F (key121 hl hj)
 have hlt:b < w.heap.size:=(Array.getElem?_eq_some_iff.1 hb).1
 have hv:v0=encS (M l j):=by
  rcases klaw121.find w (key121 hl hj) es.toList F.keys with ⟨h1,-⟩ | ⟨jj,e0,h1,h2',h3⟩
  · have e1:(Instr.mapEntry 95 (.map (some b)) (keyV l j)).run Tryz.prog w=.ok (.tuple #[.slice none 0 0,goInt clock]) (setBlock w b (.map (es.push ⟨keyV l j,.slice none 0 0,clock⟩) (clock+1))):=by
     simp [Instr.mapEntry,run_underlying Tryz.underlying95,MapKept.run_getObj_map hb,klaw121.check w false (key121 hl hj),h1,zero23,MapKept.run_setObj_map _ hb,Result.andThen,setBlock]
    have e2:(Instr.lookup 95 (.map (some b)) (keyV l j) false).run Tryz.prog w=.ok (.slice none 0 0) w:=by
     simp [Instr.lookup,run_underlying Tryz.underlying95,MapKept.run_getObj_map hb,klaw121.check w _ (key121 hl hj),h1,zero23,Result.andThen]
    rw [hrun] at e1
    rw [hlook] at e2
    simp only [Result.ok.injEq,Value.tuple.injEq,Array.mk.injEq,List.cons.injEq] at e1 e2
    exact e1.1.1.trans e2.1.symm
  · have hj':es[jj]?=some e0:=by simpa using h2'
    have e1:∃ st' w',(Instr.mapEntry 95 (.map (some b)) (keyV l j)).run Tryz.prog w=.ok (.tuple #[e0.val,st']) w':=by
     refine ⟨goInt e0.born,setBlock w b (.map (es.modify jj fun e=>{ e with key:=keyV l j }) clock),?_⟩
     simp [Instr.mapEntry,run_underlying Tryz.underlying95,MapKept.run_getObj_map hb,klaw121.check w false (key121 hl hj),h1,hj',h3,klaw121.stays w (key121 hl hj),MapKept.run_setObj_map _ hb,Result.andThen,setBlock]
    have e2:(Instr.lookup 95 (.map (some b)) (keyV l j) false).run Tryz.prog w=.ok e0.val w:=by
     simp [Instr.lookup,run_underlying Tryz.underlying95,MapKept.run_getObj_map hb,klaw121.check w _ (key121 hl hj),h1,hj',Result.andThen]
    obtain ⟨st',w',e1⟩:=e1
    rw [hrun] at e1
    rw [hlook] at e2
    simp only [Result.ok.injEq,Value.tuple.injEq,Array.mk.injEq,List.cons.injEq] at e1 e2
    exact e1.1.1.trans e2.1.symm
 rw [hv] at hrun
 refine ⟨_,_,hrun,⟨rfl,rfl,rfl,by simp [setBlock],fun i _ hi=>heap_setBlock_other hb _ (fun e=>hi (by rw [e]))⟩,fun p w2 hw2=>?_⟩
 rw [heap_setBlock_same hb] at hw2
 obtain ⟨es',clock',hr2,hr3⟩:=hst w2 (encS (some p)) hw2
 refine ⟨_,hr2,?_,⟨rfl,rfl,rfl,by simp [setBlock],fun i _ hi=>heap_setBlock_other hw2 _ (fun e=>hi (by rw [e]))⟩⟩
 obtain ⟨w',hr4,⟨es4,ck4,hm4,hrest⟩,-⟩:=hup p
 rw [hr3] at hr4
 cases hr4
 rw [heap_setBlock_same hb] at hm4
 exact ⟨_,⟨es4,ck4,(heap_setBlock_same hw2 _).trans hm4,hrest⟩,putD hT h2 hl hj p⟩
theorem MAt.made (w:World):MAt (w.alloc (.map #[] 0)) w.heap.size 0 (fun _ _=>none) :=
 ⟨_,World.ownsMap_made w Tryz.prog 121 sliceR,fun l j _ _=>⟨rfl,rfl⟩⟩
end
end
section
open Go.Maps Go.WideMaps Go.ChangeMaps
def inBlock:Code→Code
 | .block _ c=>c
 | c=>c
def firstLoop:Code→Option Code
 | .loop c=>some c
 | .seq a b=>match firstLoop a with
   | some c=>some c
   | none=>firstLoop b
 | .block _ c=>firstLoop c
 | _=>none
noncomputable def gX:Code:=inBlock (headSeq ((Tryz.f49.body.bind firstLoop).getD .skip))
theorem load_dg (w:World) (g:Nat) (D:Array Value) (h:w.heap[g]?=some (.cells D 38 (0,0))) (hs:D.size=32):(Instr.loadAt 38 (.pointer (some ⟨g,0,none⟩))).run Tryz.prog w=.ok (.agg D) w:=by
 have hr:w.rangeAt g 0 D.toList:=fun j v hj=>by
  rw [cell_of_row _ _ _ _ _ _ h,Nat.zero_add]
  simpa using hj
 have:=run_loadAt_mid (P:=Tryz.prog) w g 0 38 D.toList _ hr Tryz.underlying38 rfl (by rw [Array.length_toList,hs];exact info38)
 rwa [Array.toArray_toList] at this
theorem mkS {w:World} {gt ob g6 l j g3:Nat} {D cs:Array Value} (h1:w.heap[gt]?=some (.cells cs 99 (0,0))) (h1':cs[6]?=some (.map (some ob))) (h2:w.heap[g6]?=some (.cells #[.int .i64 (l:Int),.int .i64 (j:Int)] 3 (0,0))∨w.heap[g6]?=some (.cells #[.int .i64 (l:Int),.int .i64 (j:Int)] 121 (0,0))) (h3:w.heap[g3]?=some (.cells D 38 (0,0))) (hs:D.size=32) :
 w.cell? ⟨gt,6,none⟩=some (.map (some ob))∧w.cell? ⟨g6,0,none⟩=some (.int .i64 (l:Int))∧w.cell? ⟨g6,1,none⟩=some (.int .i64 (j:Int))∧(Instr.loadAt 38 (.pointer (some ⟨g3,0,none⟩))).run Tryz.prog w=.ok (.agg D) w:=by
 refine ⟨by rw [cell_of_row _ _ _ _ _ _ h1];exact h1',?_,?_,load_dg w g3 D h3 hs⟩
 · rcases h2 with h2 | h2 <;> (rw [cell_of_row _ _ _ _ _ _ h2];rfl)
 · rcases h2 with h2 | h2 <;> (rw [cell_of_row _ _ _ _ _ _ h2];rfl)
theorem exec_load {P:Program} {ρ:Operand→Value} {o:Oper} {ty:TypeId} {x:Operand} {v:Value} {w:World} (ho:o.op=.load ty x) (h:(Instr.loadAt ty (ρ x)).run P w=.ok v w):(execOp ρ o).run P w=.ok (.value v) w:=by
 unfold execOp
 simp only [ho,Sem.run_bind,h,Result.andThen_ok,Sem.run_pure]
section
variable {w w' : World} {ops : Array Oper} {o : Oper} {a : Act} {Q : Exit → Act → World → Prop} {K : Act → World → Prop} {E : Prop}
theorem S_value {v:Value} (hgd:o.guard=none) (hrun:(execOp a.eval o).run Tryz.prog w=.ok (.value v) w') (h:K (a.put o.dst v) w'):if Region.wanted o (yielded ops a.tmps)=true then Oper.wp Tryz.prog o a w K Q else E:=by
 rw [if_pos (by simp [Region.wanted,hgd])]
 unfold Oper.wp
 rw [hrun,Oper.upon_value]
 exact h
theorem S_skip (hgd:o.guard=none) (hrun:(execOp a.eval o).run Tryz.prog w=.ok .skip w') (h:K (a.put o.dst undef) w'):if Region.wanted o (yielded ops a.tmps)=true then Oper.wp Tryz.prog o a w K Q else E:=by
 rw [if_pos (by simp [Region.wanted,hgd])]
 unfold Oper.wp
 rw [hrun,Oper.upon_skip]
 exact h
theorem exec_entry {P:Program} {ρ:Operand→Value} {o:Oper} {ty:TypeId} {m k:Operand} {v:Value} {w w':World} (ho:o.op=.mapEntry ty m k) (h:(Instr.mapEntry ty (ρ m) (ρ k)).run P w=.ok v w'):(execOp ρ o).run P w=.ok (.value v) w':=by
 unfold execOp
 simp only [ho,Sem.run_bind,h,Result.andThen_ok,Sem.run_pure]
theorem exec_entryStore {P:Program} {ρ:Operand→Value} {o:Oper} {ty:TypeId} {m s x:Operand} {w w':World} (ho:o.op=.entryStore ty m s x) (h:(Instr.entryStore ty (ρ m) (ρ s) (ρ x)).run P w=.ok () w'):(execOp ρ o).run P w=.ok .skip w':=by
 unfold execOp
 simp only [ho,Sem.run_bind,h,Result.andThen_ok,Sem.run_pure]
theorem exec_build1 {P:Program} {ρ:Operand→Value} {o:Oper} {t e:TypeId} {d:Operand} {D:Array Value} {ie:TypeInfo} {z:Value} (ho:o.op=.buildSlice t 1 #[(0,d)]) (hd:ρ d=.agg D) (hu:P.underlying t=some (.slice e)) (hie:P.info? e=some ie) (hz:ie.zero=some z) (hs:D.size=ie.size) (h0:0 < ie.size) (hsm:ie.size≤1024) :
 (execOp ρ o).run P w=.ok (.value (.slice (some ⟨w.heap.size,0,none⟩) 1 1)) (w.alloc (.cells D e)):=by
 have hf:Instr.fill (fun i=>some (i * ie.size,ie.size)) ((Array.range (1 * ie.size)).map (z.cells[· % z.cells.size]!)) (#[(0,Value.agg D)]:Array (Nat × Value)).toList=some D:=by
  have:=Great.fill_whole h0 [Value.agg D] ((Array.range (1 * ie.size)).map (z.cells[· % z.cells.size]!)) (by intro v hv;rw [List.mem_singleton.1 hv];exact hs) (by simp)
  simpa [Value.cells] using this
 unfold execOp
 simp only [ho,List.map_toArray,List.map_cons,List.map_nil,hd]
 rw [Sem.run_bind,run_buildSlice w t e 1 _ D ie z hu hie hz (by omega) (by omega) hf]
 rfl
end
theorem dgCell (D:Array Value) (i:Nat) (u:Value) (h:D.toList[i]?=some u) (w:World):(w.alloc (.cells D 38)).cell? ⟨w.heap.size,i,none⟩=some u:=by
 have h0:(w.alloc (.cells D 38)).heap[w.heap.size]?=some (.cells D 38 (0,0)):=heap_alloc_new _ _
 rw [cell_of_row _ _ i _ _ _ h0]
 simpa using h
def Bk (gt g6 g3 l j:Nat) (cs D:Array Value) (w:World):Prop:=w.heap[gt]?=some (.cells cs 99 (0,0))∧w.heap[g6]?=some (.cells #[.int .i64 (l:Int),.int .i64 (j:Int)] 121 (0,0))∧w.heap[g3]?=some (.cells D 38 (0,0))
theorem Bk.kept {gt g6 g3 l j:Nat} {cs D:Array Value} {w w':World} {row:Option Nat} (h:Bk gt g6 g3 l j cs D w) (hg:w.grownBy w' row) (h1:row ≠ some gt) (h2:row ≠ some g6) (h3:row ≠ some g3):Bk gt g6 g3 l j cs D w':=by
 have lt:∀ k (o:Obj),w.heap[k]?=some o→k < w.heap.size:=fun k o h=>(Array.getElem?_eq_some_iff.1 h).1
 exact ⟨(hg.block gt (lt _ _ h.1) (fun e=>h1 e.symm)).trans h.1,(hg.block g6 (lt _ _ h.2.1) (fun e=>h2 e.symm)).trans h.2.1,(hg.block g3 (lt _ _ h.2.2) (fun e=>h3 e.symm)).trans h.2.2⟩
theorem mkB {w:World} {gt ob g6 l j g3:Nat} {D cs:Array Value} (h:Bk gt g6 g3 l j cs D w) (h1':cs[6]?=some (.map (some ob))) (hs:D.size=32) :
 w.cell? ⟨gt,6,none⟩=some (.map (some ob))∧w.cell? ⟨g6,0,none⟩=some (.int .i64 (l:Int))∧w.cell? ⟨g6,1,none⟩=some (.int .i64 (j:Int))∧(Instr.loadAt 38 (.pointer (some ⟨g3,0,none⟩))).run Tryz.prog w=.ok (.agg D) w:=mkS h.1 h1' (.inr h.2.1) h.2.2 hs
theorem own_row {w w':World} {ρ:Nat→Nat} {e s r n b:Nat} {v:Value} {xs:List Value} (h:OwnL w ρ e s r v n xs) (hg:w.grownBy w' (some b)) (hb:ρ b ≠ r):OwnL w' ρ e s r v n xs:=by
 refine ⟨own_same h.1 (fun k e=>hg.block k (h.1.lt k e).2 (fun e2=>hb ?_)),h.2⟩
 cases e2
 exact h.2 _ e
theorem alloc_size' (w:World) (o:Obj):(w.alloc o).heap.size=w.heap.size+1:=by unfold World.alloc;exact Array.size_push ..
theorem grown_alloc (w:World) (o:Obj):w.grownBy (w.alloc o) none:=⟨rfl,rfl,rfl,by rw [alloc_size'];omega,fun k hk _=>Lib.alloc_old w o k hk⟩
set_option maxHeartbeats 8000000
theorem grow_r6 (W:World) (τ:Nat→Nat) (gt ob g3 g6 l j r:Nat) (cs:Array Value) (d:Dg) (hl:l < 1099511627776) (hj:j < 1099511627776) (h1:W.heap[gt]?=some (.cells cs 99 (0,0))) (h1':cs[6]?=some (.map (some ob))) (h2:W.heap[g6]?=some (.cells #[.int .i64 (l:Int),.int .i64 (j:Int)] 121 (0,0))) (h3:W.heap[g3]?=some (.cells (dgA d.1) 38 (0,0)))
 (no:Nat) (Mo:Nat→Nat→Sc) (hm:MAt W ob no Mo) (hno:no≤1000000) (n:Nat) (xs:List Dg) (ho:OwnL W τ 38 32 r (encS (Mo l j)) n (xs.flatMap dgE)) (hn:n≤1000000) (hr0:r ≠ 0) (l1:τ gt=1) (l3:τ ob=3) (hr1:r ≠ 1) (hr3:r ≠ 3) (l6:τ g6=0) (lg3:τ g3=0) (hdom:∀ k,τ k ≠ 0→k < W.heap.size)
 (v4 v5 u1 u2 u7 u8 u9 u10 u11 u12 u13 u14 u15 u16 u17 u18 u19 u20 u21 u22 u23 u24 u25 u26 u27 u28 u29 u30 u31 u32 u33 u34 u35 u36 u37 u38 u39 u40 u41 u42 u43 u44 u45 u46 u47 u48 u49 u50 u51 u52 u53 u54 u55 u56 u57 u58 u59 u60 u61 u62 u63 u64 u65 u66 u67 u68 u69 u70 u71 u72 u73 u74 u75 u76 u77 u78 u79 u80 u81 u82 u83 u84 u85:Value) (K:Act→World→Prop) (R:Exit→Act→World→Prop) (hR:∀ c a a' w,R (.panic c) a w→a.defers=a'.defers→R (.panic c) a' w)
 (hK:∀ (u1 u2 u7 u8 u9 u10 u11 u12 u13 u14 u15 u16 u17 u18 u19 u20 u21 u22 u23 u24 u25 u26 u27 u28 u29 u30 u31 u32 u33 u34 u35 u36 u37 u38 u39 u40 u41 u42 u43 u44 u45 u46 u47 u48 u49 u50 u51 u52 u53 u54 u55 u56 u57 u58 u59 u60 u61 u62 u63 u64 u65 u66 u67 u68 u69 u70 u71 u72 u73 u74 u75 u76 u77 u78 u79 u80 u81 u82 u83 u84 u85:Value) (w':World) (τ':Nat→Nat) (p:Nat × Nat × Nat),MAt w' ob (no+1) (put2 Mo l j (some p))→OwnL w' τ' 38 32 r (encS (some p)) (n+1) ((xs++[d]).flatMap dgE)→Ext W.heap.size τ τ'→(∀ k,τ' k ≠ 0→k < w'.heap.size)→(∀ k,k < W.heap.size→k ≠ ob→τ k ≠ r→w'.heap[k]?=W.heap[k]?)→w'.os=W.os→w'.tape=W.tape→w'.output=W.output→W.heap.size≤w'.heap.size→K ⟨#[.pointer (some ⟨gt,0,none⟩),u1,u2,.pointer (some ⟨g3,0,none⟩),v4,v5,.pointer (some ⟨g6,0,none⟩),u7,u8,u9,u10,u11,u12,u13,u14,u15,u16,u17,u18,u19,u20,u21,u22,u23,u24,u25,u26,u27,u28,u29,u30,u31,u32,u33,u34,u35,u36,u37,u38,u39,u40,u41,u42,u43,u44,u45,u46,u47,u48,u49,u50,u51,u52,u53,u54,u55,u56,u57,u58,u59,u60,u61,u62,u63,u64,u65,u66,u67,u68,u69,u70,u71,u72,u73,u74,u75,u76,u77,u78,u79,u80,u81,u82,u83,u84,u85],[]⟩ w') :
 Code.wp Tryz.prog (headSeq (dropSeq 1 gX)) (Exit.then K R) ⟨#[.pointer (some ⟨gt,0,none⟩),u1,u2,.pointer (some ⟨g3,0,none⟩),v4,v5,.pointer (some ⟨g6,0,none⟩),u7,u8,u9,u10,u11,u12,u13,u14,u15,u16,u17,u18,u19,u20,u21,u22,u23,u24,u25,u26,u27,u28,u29,u30,u31,u32,u33,u34,u35,u36,u37,u38,u39,u40,u41,u42,u43,u44,u45,u46,u47,u48,u49,u50,u51,u52,u53,u54,u55,u56,u57,u58,u59,u60,u61,u62,u63,u64,u65,u66,u67,u68,u69,u70,u71,u72,u73,u74,u75,u76,u77,u78,u79,u80,u81,u82,u83,u84,u85],[]⟩ W:=by
 have HK:=hid hK
 have HM:=hid hm
 have HO:=hid ho
 have HDOM:=hid hdom
 obtain ⟨D,hD⟩:∃ D,D=dgA d.1:=⟨_,rfl⟩
 have HDD:=hid hD
 have HDS:=hid (show D.size=32 by rw [hD,dgA_size,d.2])
 rw [← hD] at h3
 have H1:=hid h1;have H1':=hid h1';have H2:=hid h2;have H3:=hid h3
 have hs0:=mkS h1 h1' (.inr h2) h3 HDS.out
 have HLJ:=hid (And.intro hl hj)
 have HLB:=hid (show r ≠ 0∧τ gt=1∧τ ob=3∧r ≠ 1∧r ≠ 3∧τ g6=0∧τ g3=0 from ⟨hr0,l1,l3,hr1,hr3,l6,lg3⟩)
 have HONE:=hid (show ∀ u ∈ D.toList,u.oneCell'=true from fun u hu=>by
  rw [hD] at hu
  exact Array.all_eq_true'.1 (dgA_all d.1) u (Array.mem_toList_iff.1 hu))
 have HQ1:=hid (show (n+1) * 32≤140737488355328 by omega)
 have HQ2:=hid (show n+1≤maxLen by simp [maxLen];omega)
 clear hK hm ho hdom hD h1 h1' h2 h3 hl hj hr0 l1 l3 hr1 hr3 l6 lg3
 conv=>arg 2;whnf
 refine wp_region_held_drew (S:=fun w=>w.cell? ⟨gt,6,none⟩=some (.map (some ob))∧w.cell? ⟨g6,0,none⟩=some (.int .i64 (l:Int))∧w.cell? ⟨g6,1,none⟩=some (.int .i64 (j:Int))∧(Instr.loadAt 38 (.pointer (some ⟨g3,0,none⟩))).run Tryz.prog w=.ok (.agg D) w) (by kernel_rfl) (mkS (w:=W.drew) H1.out H1'.out (.inr H2.out) H3.out HDS.out) (fun hHeld=>?_)
 apply wpTR hR 0
 apply wpTR hR 1
 apply wpTR hR 2
 apply wpTR hR 3
 apply wpTR hR 4
 apply wpLR hR 5 (.agg D)
 · exact fun w hSw=>exec_load rfl (hSw.2.2.2)
 apply wpR 6
 intro K hK
 refine S_value rfl (exec_build1 (e:=38) (D:=D) (by rfl) (by rfl) (by rfl) (by rfl) (by rfl) HDS.out (by decide) (by decide)) ?_
 have hB:Bk gt g6 g3 l j cs D W.drew:=⟨H1.out,H2.out,H3.out⟩
 have hg1:=grown_alloc W.drew (.cells D 38)
 have HB1:=hid (hB.kept hg1 (by simp) (by simp) (by simp))
 have hcell:=fun i u h=>dgCell D i u h W.drew
 have HM1:=hid (show MAt (W.drew.alloc (.cells D 38)) ob no Mo from HM.out.keep (hg1.block ob HM.out.lt (by simp)))
 have ho1:OwnL (W.drew.alloc (.cells D 38)) τ 38 32 r (encS (Mo l j)) n (xs.flatMap dgE):=⟨(show W.drew.ownsRow 0 38 32 (encS (Mo l j)) n (xs.flatMap dgE) from HO.out.1).alloc _,HO.out.2⟩
 have hsz:W.drew.heap.size=W.heap.size:=rfl
 have hsz1:W.heap.size < (W.drew.alloc (.cells D 38)).heap.size:=by rw [alloc_size',hsz];omega
 rw [hsz] at hcell ⊢
 generalize W.drew.alloc (.cells D 38)=w1 at HB1 hg1 hcell HM1 ho1 hsz1 ⊢
 have hn1:some ob ≠ some gt∧some ob ≠ some g6∧some ob ≠ some g3∧τ ob ≠ r:=by
  obtain ⟨a1,a2,a3,a4,a5,a6,a7⟩:=HLB.out
  refine ⟨fun e=>?_,fun e=>?_,fun e=>?_,fun e=>?_⟩ <;> first | (cases e;omega) | omega
 have hn2:∀ k,(encS (Mo l j)).ownBlock=some k→k ≠ gt∧k ≠ g6∧k ≠ g3∧k ≠ ob:=fun k hk=>by
  have h:=HO.out.2 k hk
  obtain ⟨a1,a2,a3,a4,a5,a6,a7⟩:=HLB.out
  refine ⟨fun e=>?_,fun e=>?_,fun e=>?_,fun e=>?_⟩ <;> (subst e;omega)
 have HN1:=hid hn1
 have HN2:=hid hn2
 obtain ⟨st,w2,he,hg2,hst⟩:=HM1.out.entry (show no < maxLen by simp [maxLen];omega) HLJ.out.1 HLJ.out.2
 have HB2:=hid (HB1.out.kept hg2 hn1.1 hn1.2.1 hn1.2.2.1)
 have HO2:=hid (own_row ho1 hg2 hn1.2.2.2)
 have HC2:=hid (show ∀ i u,D.toList[i]?=some u→w2.cell? ((⟨W.heap.size,0,none⟩:Addr).add i)=some u from fun i u h=>by
  have hc:=hcell i u h
  have ea:(⟨W.heap.size,0,none⟩:Addr).add i=⟨W.heap.size,i,none⟩:=by by_cases h0:i=0 <;> simp [Addr.add,h0]
  rw [ea]
  refine (World.cell?_of_block (hg2.block _ hsz1 ?_)).trans hc
  intro e
  have:=HM.out.lt
  injection e with e
  exact absurd (show W.heap.size=ob from e) (by omega))
 have HG1:=hid hg1;have HG2:=hid hg2;have HST:=hid hst
 clear hg1 hg2 hst hcell ho1 hn1 hn2 hB
 apply bk hK
 · exact (mkB HB1.out H1'.out HDS.out)
 intro hHeld
 clear hK K
 apply wpR 7
 intro K hK
 refine S_value rfl (exec_entry (by rfl) he) ?_
 apply bk hK
 · exact (mkB HB2.out H1'.out HDS.out)
 intro hHeld
 clear hK K
 apply wpTR hR 8
 apply wpTR hR 10
 apply wpR 9
 intro K hK
 refine S_appendN rfl (.tmp 29) (.tmp 31) 23 (by rfl) sl23 0 (encS (Mo l j)) n (xs.flatMap dgE) (by rfl) HO2.out.1 ⟨W.heap.size,0,none⟩ 1 1 D.toList (by rfl) (by rw [Array.length_toList,HDS.out]) HC2.out HONE.out HQ1.out HQ2.out (Nat.zero_le _) (fun a4 c4 w4 ho4 hg4 hat4=>?_)
 obtain ⟨g9,c9,e9,-⟩:=ho4.form (Nat.succ_pos n)
 rw [e9] at ho4 hat4 ⊢
 have hn4:(encS (Mo l j)).ownBlock ≠ some gt∧(encS (Mo l j)).ownBlock ≠ some g6∧(encS (Mo l j)).ownBlock ≠ some g3∧(encS (Mo l j)).ownBlock ≠ some ob:=⟨fun e=>(HN2.out _ e).1 rfl,fun e=>(HN2.out _ e).2.1 rfl,fun e=>(HN2.out _ e).2.2.1 rfl,fun e=>(HN2.out _ e).2.2.2 rfl⟩
 have HB4:=hid (HB2.out.kept hg4 hn4.1 hn4.2.1 hn4.2.2.1)
 obtain ⟨w5,he5,hm5,hg5⟩:=HST.out (g9,n+1,c9) w4 (hg4.block ob (Nat.lt_of_lt_of_le HM1.out.lt HG2.out.size) (fun e=>hn4.2.2.2 e.symm))
 have HG4:=hid hg4;have HG5:=hid hg5;have HM5:=hid hm5;have HO4:=hid ho4;have HAT:=hid hat4
 clear hg4 hg5 hm5 ho4 hat4 hn4
 apply bk hK
 · exact (mkB HB4.out H1'.out HDS.out)
 intro hHeld
 clear hK K
 apply wpR 11
 intro K hK
 refine S_skip rfl (exec_entryStore (by rfl) he5) ?_
 have HB5:=hid (HB4.out.kept HG5.out HN1.out.1 HN1.out.2.1 HN1.out.2.2.1)
 apply bk hK
 · exact (mkB HB5.out H1'.out HDS.out)
 intro hHeld
 clear hK K
 refine wpAnyH_done (by kernel_rfl) ?_ _
 have hne:(Value.slice (some ⟨g9,0,none⟩) (n+1) c9).ownBlock ≠ some ob:=by
  rcases HAT.out with h | h
  · rw [h];exact fun e=>(HN2.out _ e).2.2.2 rfl
  · rw [h];intro e;have h1:=HM1.out.lt;have h2:=HG2.out.size;injection e with e;omega
 have z1:W.heap.size≤w1.heap.size:=HG1.out.size
 have z2:=HG2.out.size;have z4:=HG4.out.size;have z5:=HG5.out.size
 obtain ⟨τ',x1,x2,x3⟩:=relabel HO2.out (fun k hk=>Nat.lt_of_lt_of_le (HDOM.out k hk) (by omega)) (HO4.out.kept HG5.out (.inr hne)) HAT.out HLB.out.1 (by omega)
 refine HK.out _ _ _ _ _ _ _ _ _ _ _ _ _ _ _ _ _ _ _ _ _ _ _ _ _ _ _ _ _ _ _ _ _ _ _ _ _ _ _ _ _ _ _ _ _ _ _ _ _ _ _ _ _ _ _ _ _ _ _ _ _ _ _ _ _ _ _ _ _ _ _ _ _ _ _ _ _ _ _ _ _ w5 τ' (g9,n+1,c9) HM5.out ?_ ⟨x1.same,fun k hk h0=>x1.old k (by omega) h0⟩ x2 ?_ ?_ ?_ ?_ (by omega)
 · have e:(xs++[d]).flatMap dgE=xs.flatMap dgE++D.toList:=by rw [HDD.out,List.flatMap_append];simp [dgA,dgE]
   rw [e]
   exact x3
 · intro k hk h1 h2
   have q1:w1.heap[k]?=W.heap[k]?:=HG1.out.block k hk (by simp)
   have q2:=HG2.out.block k (by omega) (fun e=>h1 (by injection e))
   have q4:=HG4.out.block k (by omega) (fun e=>h2 (HO.out.2 k e.symm))
   have q5:=HG5.out.block k (by omega) (fun e=>h1 (by injection e))
   exact q5.trans (q4.trans (q2.trans q1))
 · exact HG5.out.os.trans (HG4.out.os.trans (HG2.out.os.trans HG1.out.os))
 · exact HG5.out.tape.trans (HG4.out.tape.trans (HG2.out.tape.trans HG1.out.tape))
 · exact HG5.out.output.trans (HG4.out.output.trans (HG2.out.output.trans HG1.out.output))
end
end Go.Proofs.YtgkehahklccacaaGreatDoor
