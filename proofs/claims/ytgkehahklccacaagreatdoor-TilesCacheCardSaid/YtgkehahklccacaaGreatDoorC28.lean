import Derived.Test.YtgkehahklccacaaGreatDoorC27
import Derived.Test.YtgkehahklccacaaGreatDoorC03
import Derived.Test.YtgkehahklccacaaGreatDoorC26
import Derived.Test.YtgkehahklccacaaGreatDoorC09
namespace Go.Proofs.YtgkehahklccacaaGreatDoor
open Go Go.RowKit
open Go.Lib (hid)
set_option maxRecDepth 100000
set_option maxHeartbeats 1000000
set_option linter.unusedVariables false
set_option linter.unusedSimpArgs false
section
open Go.Maps Go.WideMaps Go.ChangeMaps
def Two (w:World) (B g g':Nat) (wd:Int) (k:Nat) (tv tv':Value):Prop:=∃ n n',n≤k∧n'≤k∧ClimbAt w B g wd n tv∧ClimbAt w B g' wd n' tv'∧∀ j,tv.ownBlock=some j→tv'.ownBlock ≠ some j
theorem Two.swap {w:World} {B g g' k:Nat} {wd:Int} {tv tv':Value} (h:Two w B g g' wd k tv tv'):Two w B g' g wd k tv' tv:=by
 obtain ⟨n,n',h1,h2,h3,h4,h5⟩:=h
 exact ⟨n',n,h2,h1,h4,h3,fun j hj q=>h5 j q hj⟩
theorem Two.mono {w:World} {B g g' k k':Nat} {wd:Int} {tv tv':Value} (h:Two w B g g' wd k tv tv') (hk:k≤k'):Two w B g g' wd k' tv tv':=by
 obtain ⟨n,n',h1,h2,h3,h4,h5⟩:=h
 exact ⟨n,n',Nat.le_trans h1 hk,Nat.le_trans h2 hk,h3,h4,h5⟩
theorem ClimbAt.keep {w w':World} {B g n:Nat} {wd:Int} {tv:Value} (h:ClimbAt w B g wd n tv) (hg:w'.heap[g]?=w.heap[g]?) (ho:∀ j,tv.ownBlock=some j→w'.heap[j]?=w.heap[j]?):ClimbAt w' B g wd n tv:=⟨hg.trans h.1,h.2.imp fun xs q=>⟨own_same q.1 ho,q.2⟩⟩
theorem Two.keep {w w':World} {B g g' k:Nat} {wd:Int} {tv tv':Value} (h:Two w B g g' wd k tv tv') (hg:w'.heap[g]?=w.heap[g]?) (hg':w'.heap[g']?=w.heap[g']?) (ho:∀ j,B≤j→j < w.heap.size→w'.heap[j]?=w.heap[j]?):Two w' B g g' wd k tv tv':=by
 obtain ⟨n,n',h1,h2,h3,h4,h5⟩:=h
 refine ⟨n,n',h1,h2,h3.keep hg fun j hj=>?_,h4.keep hg' fun j hj=>?_,h5⟩
 · obtain ⟨xs,q,-⟩:=h3.2;exact ho j (q.lt j hj).1 (q.lt j hj).2
 · obtain ⟨xs,q,-⟩:=h4.2;exact ho j (q.lt j hj).1 (q.lt j hj).2
theorem two_node (w:World) (B g g' k:Nat) (tv tv':Value) (wd:Int) (h0:-9223372036854775808≤wd) (h1:wd≤9223372036854775807) (h:Two w B g g' wd k tv tv') (hne:g ≠ g') (hk:k≤1000000) (hB:B≤w.heap.size) (l r:Dg) (ht:RoundTab w) (h3:3 < B) (hg:3 < g) (hg':g' < B) :
 Calls Tryz.prog 205 #[.pointer (some ⟨g,0,none⟩),.agg (dgA l.1),.agg (dgA r.1)] w fun e w'=>e=.returned (.agg (dgA (nodeD wd l r).1))∧(∃ tv1,Two w' B g g' wd (k+1) tv1 tv')∧Below 0 w w'∧∀ j,j < B→j ≠ g→w'.heap[j]?=w.heap[j]?:=by
 obtain ⟨n,n',q1,q2,q3,q4,q5⟩:=h
 have hob:∀ j,tv.ownBlock=some j→B≤j∧j < w.heap.size:=fun j hj=>by obtain ⟨xs,q,-⟩:=q3.2;exact q.lt j hj
 have hob':∀ j,tv'.ownBlock=some j→B≤j∧j < w.heap.size:=fun j hj=>by obtain ⟨xs,q,-⟩:=q4.2;exact q.lt j hj
 refine (cnode_any w B g n tv wd h0 h1 q3 (by omega) hB l r ht h3 hg).mono ?_
 rintro e w' ⟨rfl,tv1,c1,f1,a1⟩
 refine ⟨rfl,⟨tv1,n+1,n',by omega,by omega,c1,q4.keep (f1.blk g' q4.lt (fun e=>hne e.symm) (fun e=>by have:=hob g' e.symm;omega)) (fun j hj=>f1.blk j (hob' j hj).2 (fun e=>?_) (fun e=>q5 j e.symm hj)),fun j hj q=>?_⟩,f1.b,fun j hj hn=>f1.blk j (Nat.lt_of_lt_of_le hj hB) hn (fun e=>by have:=hob j e.symm;omega)⟩
 · subst e
   obtain ⟨xs,q,-⟩:=q4.2
   exact own_ne q q3.1 (by decide) hj
 · rcases a1 with e | ⟨x,e,hx⟩
   · rw [e] at hj;exact q5 j hj q
   · rw [e] at hj;have:=Option.some.inj hj;have:=hob' j q;omega
theorem W_appendO {P:Program} {w:World} {o:Oper} {a:Act} {Q:Exit→Act→World→Prop} {K:Act→World→Prop} (s x:Operand) (t:TypeId) (ho:o.op=.call { callee:=.builtin .append,args:=#[s,x],argTypes:=#[t,t] })
 {e:TypeId} {z:Value} {bytes:Nat} (T:Sl P t e z 1 bytes) (base:Nat) (v:Value) (n:Nat) (xs:List Value) (hs:a.eval s=v) (hown:w.ownsRow base e 1 v n xs)
 (v2:Value) (m:Nat) (l:List Value) (hx:a.eval x=v2) (hown2:w.ownsRow base e 1 v2 m l) (h1:∀ u ∈ l,u.oneCell'=true) (hb:(n+m) * bytes≤140737488355328) (hm:n+m≤maxLen) (hbase:base≤w.heap.size)
 (h:∀ v' w',w.grownBy w' v.ownBlock→K (a.put o.dst v') w'):o.wp P a w K Q:=by
 obtain ⟨i,hi,hz0,hz1,hz2⟩:=info_parts T.inf
 rcases hown2.2 with ⟨hv2,h0⟩ | ⟨g2,cap2,cur2,hv2,hg2,hh2,hnc2,hcm2,hcs2,htk2⟩
 · subst hs
   rw [hv2] at hx
   have hh:=h (a.eval s) w ⟨rfl,rfl,rfl,Nat.le_refl _,fun _ _ _=>rfl⟩
   rcases hown.2 with ⟨hv,rfl⟩ | ⟨g,cap,cur,hv,_,_,hnc,_⟩
   · rw [hv] at hh
     unfold Oper.wp
     simp [execOp,ho,resolve,invoke,builtin,hv,hx,Builtin.append_,run_underlying T.und,sizeOf,typeInfo,hi,Builtin.lenOf,Builtin.firstCells,Result.andThen]
     exact hh
   · rw [hv] at hh
     unfold Oper.wp
     simp [execOp,ho,resolve,invoke,builtin,hv,hx,Builtin.append_,run_underlying T.und,sizeOf,typeInfo,hi,Builtin.lenOf,Builtin.firstCells,Result.andThen,hnc,storeCells]
     exact hh
 · obtain ⟨v',w',hr2,h2,h3,_,h5⟩:=run_append_own_at (P:=P) w base t o.type e i z 1 bytes T.und hi hz0 hz1 hz2 T.zs T.pos v n xs hown ⟨g2,0,none⟩ m cap2 l (by rw [hown2.1]) (fun j u hu=>by
    rw [Addr.add_lit,Nat.zero_add,cell_of_row _ _ _ _ _ _ hh2]
    have hj:j < m * 1:=by rw [← hown2.1];exact (List.getElem?_eq_some_iff.1 hu).1
    rw [← htk2,List.getElem?_take,if_pos hj] at hu
    simpa using hu) h1 hm hb hbase
   unfold Oper.wp execOp
   simp only [ho,resolve,invoke,builtin,Sem.run_bind,Sem.run_pure,Result.andThen_ok,List.map_toArray,List.map_cons,List.map_nil,hs,hx,hv2,hr2]
   exact h _ w' h3
theorem S_appendO {P:Program} {w:World} {ops:Array Oper} {o:Oper} {a:Act} {Q:Exit→Act→World→Prop} {K:Act→World→Prop} {E:Prop} (hgd:o.guard=none) (s x:Operand) (t:TypeId) (ho:o.op=.call { callee:=.builtin .append,args:=#[s,x],argTypes:=#[t,t] })
 {e:TypeId} {z:Value} {bytes:Nat} (T:Sl P t e z 1 bytes) (base:Nat) (v:Value) (n:Nat) (xs:List Value) (hs:a.eval s=v) (hown:w.ownsRow base e 1 v n xs)
 (v2:Value) (m:Nat) (l:List Value) (hx:a.eval x=v2) (hown2:w.ownsRow base e 1 v2 m l) (h1:∀ u ∈ l,u.oneCell'=true) (hb:(n+m) * bytes≤140737488355328) (hm:n+m≤maxLen) (hbase:base≤w.heap.size)
 (h:∀ v' w',w.grownBy w' v.ownBlock→K (a.put o.dst v') w'):if Region.wanted o (yielded ops a.tmps)=true then Oper.wp P o a w K Q else E:=by
 rw [if_pos (by simp [Region.wanted,hgd])]
 exact W_appendO s x t ho T base v n xs hs hown v2 m l hx hown2 h1 hb hm hbase h
theorem results_row_row_tmp {P:Program} {fn:Func} {p q u:Tmp} {ty:TypeId} (h:fn.results=#[.cell p ty,.cell q ty,.tmp u]) (tmps:Array Value) (w:World) (g g2:Nat) (t t2:TypeId) (cs cs2:Array Value) (fr fr2:Nat × Nat) (d:TypeDesc)
 (hp:tmps.getD p undef=.pointer (some ⟨g,0,none⟩)) (hg:w.heap[g]?=some (.cells cs t fr)) (hq:tmps.getD q undef=.pointer (some ⟨g2,0,none⟩)) (hg2:w.heap[g2]?=some (.cells cs2 t2 fr2))
 (hu:P.underlying ty=some d) (hd:(match d with | .struct _ | .array _ _=>true | _=>false)=true) (hi:(P.info? ty).map (·.size)=some cs.size) (hi2:(P.info? ty).map (·.size)=some cs2.size) :
 (results fn tmps).run P w=.ok (.tuple #[.agg cs,.agg cs2,tmps.getD u undef]) w:=by
 have e:(results fn tmps).run P w=((asAddr (tmps.getD p undef)).run P w).andThen fun a w₁=>((loadVar ty a).run P w₁).andThen fun v w₂=>((asAddr (tmps.getD q undef)).run P w₂).andThen fun a2 w₃=>((loadVar ty a2).run P w₃).andThen fun v2 w₄=>.ok (.tuple #[v,v2,tmps.getD u undef]) w₄:=by
  simp only [results,h]
  simp [Sem.run_bind,Result.andThen]
 rw [e,hp,hq]
 simp [asAddr,run_loadVar_row w g t ty cs fr d hg hu hd hi,run_loadVar_row w g2 t2 ty cs2 fr2 d hg2 hu hd hi2,Result.andThen]
end
section
open Go.Maps Go.WideMaps Go.ChangeMaps
def foldP (wd:Int):List Dg→Dg
 | []=>nothingD wd
 | [d]=>d
 | d :: e :: r=>nodeD wd d (foldP wd (e :: r))
theorem foldP_step (wd:Int) (ds:List Dg) (q:Nat) (x:Dg) (hx:ds[q]?=some x) (hq:q+1 < ds.length):foldP wd (ds.drop q)=nodeD wd x (foldP wd (ds.drop (q+1))):=by
 obtain ⟨hl,he⟩:=List.getElem?_eq_some_iff.1 hx
 rw [List.drop_eq_getElem_cons hl,he,List.drop_eq_getElem_cons hq]
 rfl
theorem foldP_last (wd:Int) (ds:List Dg) (q:Nat) (x:Dg) (hx:ds[q]?=some x) (hq:q+1=ds.length):foldP wd (ds.drop q)=x:=by
 obtain ⟨hl,he⟩:=List.getElem?_eq_some_iff.1 hx
 rw [List.drop_eq_getElem_cons hl,he,List.drop_eq_nil_of_le (by omega)]
 rfl
theorem load_dig {w:World} {b o:Nat} {D:Array Value} (hc:w.rangeAt b o D.toList) (hs:D.size=32):(Instr.loadAt 38 (.pointer (some ⟨b,o,none⟩))).run Tryz.prog w=.ok (.agg D) w:=by
 have:=run_loadAt_mid (P:=Tryz.prog) w b o 38 D.toList _ hc Tryz.underlying38 rfl (by rw [Array.length_toList,hs];exact info38)
 rwa [Array.toArray_toList] at this
set_option maxHeartbeats 8000000
theorem fold_any (w:World) (wd:Int) (h0:-9223372036854775808≤wd) (h1:wd≤9223372036854775807) (a:Option Addr) (n c:Nat) (ds:List Dg) (hds:DS w a n c ds) (hn:n≤1000000) (h1n:1≤n) (ht:RoundTab w) (h3:3 < w.heap.size) :
 Calls Tryz.prog 63 #[.int .i64 wd,.slice a n c] w fun e w'=>e=.returned (.agg (dgA (foldP wd ds).1))∧Below w.heap.size w w':=by
 have hln:=hds.1
 have hcap:=hds.2.1
 obtain ⟨x,hx⟩:∃ x,ds[n - 1]?=some x:=⟨_,List.getElem?_eq_getElem (by omega)⟩
 obtain ⟨b',off',rfl,hbl,hr⟩:=hds.at hx
 obtain ⟨X,hX⟩:∃ X,X=dgA x.1:=⟨_,rfl⟩
 have hXS:X.size=32:=by rw [hX,dgA_size,x.2]
 have HX1:=hid (show X.all (·.oneCell')=true by rw [hX];exact dgA_all _)
 obtain ⟨rb,hrb⟩:∃ rb,rb=w.heap.size:=⟨_,rfl⟩
 obtain ⟨d5,hd5⟩:∃ d5,d5=rb+1:=⟨_,rfl⟩
 obtain ⟨w1,hw1⟩:∃ w1,w1=w.alloc (.cells (dgA zDg.1) 38):=⟨_,rfl⟩
 have hb1:Below w.heap.size w w1:=by rw [hw1];exact (Below.refl _ _).alloc (Nat.le_refl _) _
 have hz1:w1.heap.size=d5:=by rw [hw1,World.size_alloc];omega
 have hg1:w1.heap[rb]?=some (.cells (dgA zDg.1) 38 (0,0)):=by rw [hw1,hrb];exact heap_alloc_new _ _
 obtain ⟨w2,hw2⟩:∃ w2,w2=w1.alloc (.cells (dgA zDg.1) 38):=⟨_,rfl⟩
 obtain ⟨hb3,hg3,hth⟩:=new_dig w1 X hXS
 rw [← hw2] at hb3 hg3 hth
 rw [hz1] at hb3 hg3 hth
 have hr1:w1.rangeAt b' (off'+(n - 1) * 32) X.toList:=by
  have h9:w1.rangeAt b' (off'+(n - 1) * 32) (x.1.map b8):=fun q v hv=>(World.cell?_of_block (hb1.block b' hbl)).trans (hr q v hv)
  rw [hX];simpa [dgA] using h9
 have HR1:=hid hr1;have HXS:=hid hXS;have HTH:=hid hth
 have hB3:Below w.heap.size w (w2.setCells d5 0 X.toList):=hb1.trans (hb3.mono (by omega))
 have HB3:=hid hB3
 have HG3:=hid hg3
 have HG0:=hid ((hb3.block rb (by omega)).trans hg1)
 have HZ3:=hid hb3.size
 have HDS:=hid hds
 have HH:=hid (And.intro h0 (And.intro h1 (And.intro hn (And.intro h1n (And.intro ht h3)))))
 have HXX:=hid (show foldP wd (ds.drop (n - 1))=x from foldP_last wd ds (n - 1) x hx (by omega))
 have HX:=hid hX
 have HRB:=hid hrb;have HD5:=hid hd5
 have hw1':w.alloc (.cells #[.int .u8 0,.int .u8 0,.int .u8 0,.int .u8 0,.int .u8 0,.int .u8 0,.int .u8 0,.int .u8 0,.int .u8 0,.int .u8 0,.int .u8 0,.int .u8 0,.int .u8 0,.int .u8 0,.int .u8 0,.int .u8 0,.int .u8 0,.int .u8 0,.int .u8 0,.int .u8 0,.int .u8 0,.int .u8 0,.int .u8 0,.int .u8 0,.int .u8 0,.int .u8 0,.int .u8 0,.int .u8 0,.int .u8 0,.int .u8 0,.int .u8 0,.int .u8 0] 38)=w1:=hw1.symm
 have hw2':w1.alloc (.cells #[.int .u8 0,.int .u8 0,.int .u8 0,.int .u8 0,.int .u8 0,.int .u8 0,.int .u8 0,.int .u8 0,.int .u8 0,.int .u8 0,.int .u8 0,.int .u8 0,.int .u8 0,.int .u8 0,.int .u8 0,.int .u8 0,.int .u8 0,.int .u8 0,.int .u8 0,.int .u8 0,.int .u8 0,.int .u8 0,.int .u8 0,.int .u8 0,.int .u8 0,.int .u8 0,.int .u8 0,.int .u8 0,.int .u8 0,.int .u8 0,.int .u8 0,.int .u8 0] 38)=w2:=hw2.symm
 have hz1':w1.heap.size=d5:=hz1
 have hrb':w.heap.size=rb:=hrb.symm
 have b1:((n:Int) == 0)=false:=by simp;omega
 have hn1:(n:Int) - 1=((n - 1:Nat):Int):=by omega
 obtain ⟨m,hm⟩:∃ m,m=n - 1:=⟨_,rfl⟩
 have HM:=hid hm
 rw [← hm] at hn1 HR1 HXX
 have hmn:m < n:=by omega
 have hn2:(n:Int) - 2=(m:Int) - 1:=by omega
 clear hds hln hx hbl hr hXS hX hb1 hz1 hg1 hb3 hg3 hth hr1 hB3 hw1 hw2 h0 h1 ht h3 hrb hd5 hm
 go_enter Tryz.func63,Tryz.ntmps63
 go_wp2_with (first
  | (refine L_load_arr rfl 38 (.tmp 16) (by rfl) b' (off'+m * 32) (by rfl) X _ HR1.out Tryz.underlying38 rfl (by rw [HXS.out];exact info38) ?_)
  | (refine wpList_store_mid rfl 38 (.tmp 5) (.tmp 17) (by rfl) d5 0 X (by rfl) (by rfl) HTH.out (by rw [HXS.out];exact info38) HX1.out ?_))
 generalize w2.setCells d5 0 X.toList=w3 at HB3 HG3 HG0 HZ3 ⊢
 clear b1 hn1 hn2 hz1' hw1' hw2'
 have HW:=hid hrb'
 clear hrb'
 go_loopw [6] (fun v wr=>∃ j:Nat,j≤m∧v=.int .i64 ((j:Int) - 1)∧wr.heap[d5]?=some (.cells (dgA (foldP wd (ds.drop j)).1) 38 (0,0))∧wr.heap[rb]?=some (.cells (dgA zDg.1) 38 (0,0))∧Below w.heap.size w wr) (fun v _=>(intOf v+1).toNat)
 case atStart=>exact ⟨m,Nat.le_refl _,rfl,by rw [HXX.out,← HX.out];simpa using HG3.out,HG0.out,HB3.out⟩
 case round =>
  obtain ⟨j,hj,rfl,hg5,hg0,hb⟩:=hrel
  have HG5:=hid hg5;have HG00:=hid hg0;have HB:=hid hb;have HJ:=hid hj
  by_cases hlt:1≤j
  · obtain ⟨q,hq⟩:∃ q,q=j - 1:=⟨_,rfl⟩
    rw [show (j:Int) - 1=(q:Int) by omega]
    have hqn:q < n:=by omega
    have hq6:q≤1000000:=by have:=HH.out;omega
    obtain ⟨y,hy⟩:∃ y,ds[q]?=some y:=⟨_,List.getElem?_eq_getElem (by have:=HDS.out.1;omega)⟩
    obtain ⟨b2,o2,e2,hbl,hr⟩:=(HDS.out.below hb).at hy
    cases e2
    obtain ⟨Yv,hYv⟩:∃ Yv,Yv=dgA y.1:=⟨_,rfl⟩
    have hYS:Yv.size=32:=by rw [hYv,dgA_size,y.2]
    have hr:wr.rangeAt b' (off'+q * 32) Yv.toList:=by rw [hYv];simpa [dgA] using hr
    obtain ⟨E,hE⟩:∃ E,E=dgA (foldP wd (ds.drop j)).1:=⟨_,rfl⟩
    have hES:E.size=32:=by rw [hE,dgA_size,(foldP wd (ds.drop j)).2]
    obtain ⟨F,hF⟩:∃ F,F=dgA (foldP wd (ds.drop q)).1:=⟨_,rfl⟩
    have hFS:F.size=32:=by rw [hF,dgA_size,(foldP wd (ds.drop q)).2]
    have hst:foldP wd (ds.drop q)=nodeD wd y (foldP wd (ds.drop j)):=by
     have:=foldP_step wd ds q y hy (by have:=HDS.out.1;omega)
     rwa [show q+1=j by omega] at this
    have hnd:Calls Tryz.prog 114 #[.int .i64 wd,.agg Yv,.agg E] wr.drew (fun e w'=>e=.returned (.agg F)∧Below wr.drew.heap.size wr.drew w'):=by
     rw [hYv,hE,hF,hst]
     exact node_any wr.drew wd HH.out.1 HH.out.2.1 y.1 (foldP wd (ds.drop j)).1 y.2 (foldP wd (ds.drop j)).2 (rt_below HH.out.2.2.2.2.1 (show Below w.heap.size w wr.drew from ⟨hb.os,hb.tape,hb.output,hb.size,hb.block⟩) HH.out.2.2.2.2.2) (Nat.lt_of_lt_of_le HH.out.2.2.2.2.2 hb.size)
    rw [← hE] at hg5
    have HND:=hid hnd;have HYS:=hid hYS;have HES:=hid hES;have HFS:=hid hFS
    have HF1:=hid (show F.all (·.oneCell')=true by rw [hF];exact dgA_all _)
    have HLD:=hid (load_dig hr hYS)
    have HL5:=hid (load_dg wr d5 E hg5 hES)
    have HE5:=hid hg5
    have HF:=hid hF
    have HQ:=hid (show q+1=j by omega)
    have HBL:=hid hbl
    have HR:=hid hr
    have h9:decide ((0:Int)≤(q:Int))=true:=by simp
    have hs0:(Instr.loadAt 38 (.pointer (some ⟨b',off'+q * 32,none⟩))).run Tryz.prog wr.drew=.ok (.agg Yv) wr.drew:=load_dig (w:=wr.drew) HR.out HYS.out
    clear hj hg5 hg0 hb hlt hq hy hr hYv hYS hE hES hF hFS hst hnd hbl
    go_upto_region 7 with (fail)
    refine wp_region_held_drew (S:=fun x=>(Instr.loadAt 38 (.pointer (some ⟨b',off'+q * 32,none⟩))).run Tryz.prog x=.ok (.agg Yv) x) (by kernel_rfl) hs0 (fun hHeld=>?_)
    apply wpT 0
    apply wpT 1
    apply wpT 2
    apply wpT 3
    apply wpL 4 (.agg Yv)
    · exact fun w hSw=>exec_load rfl (hSw)
    apply wpR 5
    intro K hK
    refine S_value rfl (exec_load rfl (load_dg wr.drew d5 E HE5.out HES.out)) ?_
    apply bk hK
    · exact hs0
    intro hHeld
    clear hK K
    apply wpR 6
    intro K hK
    go_simp
    refine HND.out.mono ?_
    rintro e w6 ⟨rfl,hb6⟩
    have hb6':Below wr.heap.size wr w6:=⟨hb6.os,hb6.tape,hb6.output,hb6.size,hb6.block⟩
    have hg6:=(hb6'.block d5 (Array.getElem?_eq_some_iff.1 HE5.out).1).trans HE5.out
    have HG06:=hid ((hb6'.block rb (Array.getElem?_eq_some_iff.1 HG00.out).1).trans HG00.out)
    have hr6:w6.rangeAt b' (off'+q * 32) Yv.toList:=fun i v hv=>(World.cell?_of_block (hb6'.block b' HBL.out)).trans (HR.out i v hv)
    have hs6:=load_dig hr6 HYS.out
    have hth6:=there_block hg6
    rw [HES.out] at hth6
    have HTH6:=hid hth6
    have HGF6:=hid (setCells_all hg6 F.toList (by rw [Array.length_toList,HFS.out,HES.out]))
    have hgr6:=setCells_grown d5 F.toList 0 w6
    have HGR6:=hid hgr6
    have HB6:=hid (HB.out.trans (hb6'.mono HB.out.size))
    have hd5b:d5 ≠ b':=by
     have h1:=HDS.out.at (List.getElem?_eq_getElem (show q < ds.length by have:=HDS.out.1;omega))
     obtain ⟨b3,o3,e3,h3,-⟩:=h1
     cases e3
     have:=HRB.out;have:=HD5.out;omega
    have hs7:(Instr.loadAt 38 (.pointer (some ⟨b',off'+q * 32,none⟩))).run Tryz.prog (w6.setCells d5 0 F.toList)=.ok (.agg Yv) (w6.setCells d5 0 F.toList):=load_dig (fun i v hv=>(World.cell?_of_block (hgr6.block b' (Nat.lt_of_lt_of_le HBL.out hb6'.size) (fun e=>hd5b (Option.some.inj e).symm))).trans (hr6 i v hv)) HYS.out
    have hd5rb:d5 ≠ rb:=by have:=HD5.out;omega
    have HG07:=hid ((hgr6.block rb (Array.getElem?_eq_some_iff.1 HG06.out).1 (fun e=>hd5rb (Option.some.inj e).symm)).trans HG06.out)
    clear hb6 hb6' hg6 hth6 hgr6 hd5b hr6
    apply bk hK
    · exact hs6
    intro hHeld
    clear hK K
    apply wpR 7
    intro K hK
    refine S_store_mid rfl 38 (.tmp 5) (.tmp 31) (by rfl) d5 0 F (by rfl) (by rfl) (by rw [HFS.out];exact HTH6.out) (by rw [HFS.out];exact info38) HF1.out ?_
    apply bk hK
    · exact hs7
    intro hHeld
    clear hK K
    refine wpAnyH_done (by kernel_rfl) ?_ _
    clear hs0 hs6 hs7
    have HB7:=hid (HB6.out.grown HGR6.out HB6.out.size (fun k hk=>by rw [← Option.some.inj hk];have:=HRB.out;have:=HD5.out;omega))
    have HG57:=hid (show (w6.setCells d5 0 F.toList).heap[d5]?=some (.cells (dgA (foldP wd (ds.drop q)).1) 38 (0,0)) by rw [← HF.out];simpa using HGF6.out)
    clear h9
    go_wp2_with fail
    refine ⟨⟨q,by have:=HQ.out;have:=HJ.out;omega,rfl,HG57.out,HG07.out,HB7.out⟩,?_⟩
    simp [intOf]
  · obtain rfl:j=0:=by omega
    rw [List.drop_zero] at hg5
    have hth:=there_block hg0
    rw [show (dgA zDg.1).size=32 from rfl] at hth
    have HTH0:=hid hth
    obtain ⟨E,hE⟩:∃ E,E=dgA (foldP wd ds).1:=⟨_,rfl⟩
    have HE:=hid hE
    have HES:=hid (show E.size=32 by rw [hE,dgA_size,(foldP wd ds).2])
    have HE1:=hid (show E.all (·.oneCell')=true by rw [hE];exact dgA_all _)
    rw [← hE] at hg5
    have HL9:=hid hg5
    have HGF:=hid (setCells_all hg0 E.toList (by rw [Array.length_toList,HES.out];rfl))
    rw [show ((0:Nat):Int) - 1=-1 from rfl]
    clear hlt hj hg5 hg0 hb hth hE
    go_wp2_with (first
     | (refine wpList_load_row rfl 38 (.tmp 5) (by rfl) d5 (by rfl) 38 E (0,0) _ HL9.out Tryz.underlying38 rfl (by rw [HES.out];exact info38) ?_)
     | (refine wpList_store_mid rfl 38 (.tmp 4) (.tmp 32) (by rfl) rb 0 E (by rfl) (by rfl) (by rw [HES.out];exact HTH0.out) (by rw [HES.out];exact info38) HE1.out ?_))
    have HB9:=hid (HB.out.grown (setCells_grown rb E.toList 0 wr) HB.out.size (fun k hk=>by rw [← Option.some.inj hk];have:=HRB.out;omega))
    generalize wr.setCells rb 0 E.toList=w9 at *
    have hGF:w9.heap[rb]?=some (.cells E 38 (0,0)):=by have:=HGF.out;simpa using this
    have HGF9:=hid hGF
    refine bodyPost_ret (v:=.agg E) (results_cell_row (p:=4) (ty:=38) rfl _ _ rb 38 E (0,0) _ rfl HGF9.out Tryz.underlying38 rfl (by rw [HES.out];exact info38)) rfl ⟨by rw [HE.out],HB9.out⟩
end
section
theorem leftP_mid {n q:Nat} (h1:2 ^ q < n) (h2:n≤2 ^ (q+1)) (hn:n≤1000000000000):leftP n=2 ^ q:=by
 have h0:0 < 2 ^ q:=Nat.pow_pos (by decide)
 have h64:n - 1 < 2 ^ 64:=by omega
 have a:=bitAux_lt 64 (n - 1) h64
 obtain ⟨b,c⟩:=bitAux_le 64 (n - 1) h64 (by omega)
 unfold leftP Lib.bitLen
 congr 1
 have e1:q < Lib.bitLenAux 64 (n - 1):=(Nat.pow_lt_pow_iff_right (show 1 < 2 by decide)).1 (Nat.lt_of_le_of_lt (show 2 ^ q≤n - 1 by omega) a)
 have e2:Lib.bitLenAux 64 (n - 1) - 1 < q+1:=(Nat.pow_lt_pow_iff_right (show 1 < 2 by decide)).1 (Nat.lt_of_le_of_lt c (by omega))
 omega
theorem leftP_pow (u:Nat) (hu:u≤38):leftP (2 ^ (u+1))=2 ^ u:=by
 refine leftP_mid ?_ (Nat.le_refl _) ?_
 · rw [Nat.pow_succ];have:0 < 2 ^ u:=Nat.pow_pos (by decide);omega
 · calc 2 ^ (u+1)≤2 ^ 39:=Nat.pow_le_pow_right (by decide) (by omega)
    _≤1000000000000:=by decide
theorem rootF_succ (f:Nat) (wd:Int) (ds:List Dg) (h:2≤ds.length):rootF (f+1) wd ds=nodeD wd (rootF f wd (ds.take (leftP ds.length))) (rootF f wd (ds.drop (leftP ds.length))):=by
 match ds,h with
 | d :: e :: r,_=>rfl
theorem rootF_fuel (wd:Int):∀ (n:Nat) (ds:List Dg),ds.length≤n→n≤1000000→∀ f g,ds.length≤f→ds.length≤g→1≤f→1≤g→rootF f wd ds=rootF g wd ds:=by
 intro n
 induction n with
 | zero =>
   intro ds h _ f g _ _ hf hg
   obtain rfl:ds=[]:=List.eq_nil_of_length_eq_zero (by omega)
   obtain ⟨f,rfl⟩:∃ k,f=k+1:=⟨f - 1,by omega⟩
   obtain ⟨g,rfl⟩:∃ k,g=k+1:=⟨g - 1,by omega⟩
   rfl
 | succ n ih =>
   intro ds h hn f g hf hg hf1 hg1
   obtain ⟨f,rfl⟩:∃ k,f=k+1:=⟨f - 1,by omega⟩
   obtain ⟨g,rfl⟩:∃ k,g=k+1:=⟨g - 1,by omega⟩
   by_cases h2:2≤ds.length
   · obtain ⟨k1,k2⟩:=leftP_lt ds.length h2 (by omega)
     rw [rootF_succ f wd ds h2,rootF_succ g wd ds h2]
     rw [ih (ds.take _) (by rw [List.length_take];omega) (by omega) f g (by rw [List.length_take];omega) (by rw [List.length_take];omega) (by omega) (by omega)]
     rw [ih (ds.drop _) (by rw [List.length_drop];omega) (by omega) f g (by rw [List.length_drop];omega) (by rw [List.length_drop];omega) (by omega) (by omega)]
   · match ds,h2 with
     | [],_=>rfl
     | [d],_=>rfl
     | d :: e :: r,h2=>simp at h2
theorem rootP_one (wd:Int) (d:Dg):rootP wd [d]=d:=rfl
theorem rootP_two (wd:Int) (ds:List Dg) (h:2≤ds.length) (hn:ds.length≤1000000):rootP wd ds=nodeD wd (rootP wd (ds.take (leftP ds.length))) (rootP wd (ds.drop (leftP ds.length))):=by
 obtain ⟨k1,k2⟩:=leftP_lt ds.length h (by omega)
 unfold rootP
 obtain ⟨f,hf⟩:∃ f,ds.length=f+1:=⟨ds.length - 1,by omega⟩
 have e:=rootF_succ f wd ds h
 rw [← hf] at e
 rw [e]
 rw [rootF_fuel wd f (ds.take _) (by rw [List.length_take];omega) (by omega) f (ds.take (leftP ds.length)).length (by rw [List.length_take];omega) (Nat.le_refl _) (by omega) (by rw [List.length_take];omega)]
 rw [rootF_fuel wd f (ds.drop _) (by rw [List.length_drop];omega) (by omega) f (ds.drop (leftP ds.length)).length (by rw [List.length_drop];omega) (Nat.le_refl _) (by omega) (by rw [List.length_drop];omega)]
theorem rootP_comp (wd:Int):∀ (u:Nat) (L:List Dg),u≤10→L.length=256 * 2 ^ u→rootP wd ((List.range (2 ^ u)).map fun j=>rootP wd ((L.drop (256 * j)).take 256))=rootP wd L:=by
 intro u
 induction u with
 | zero =>
   intro L _ h
   have:L.take 256=L:=List.take_of_length_le (by omega)
   show rootP wd [rootP wd ((L.drop (256 * 0)).take 256)]=_
   rw [Nat.mul_zero,List.drop_zero,this,rootP_one]
 | succ u ih =>
   intro L hu h
   have h2:(2:Nat) ^ (u+1)=2 ^ u+2 ^ u:=by rw [Nat.pow_succ];omega
   have hp:0 < 2 ^ u:=Nat.pow_pos (by decide)
   have hb:2 ^ u≤1024:=by
    calc 2 ^ u≤2 ^ 10:=Nat.pow_le_pow_right (by decide) (by omega)
     _=1024:=by decide
   have hm:((List.range (2 ^ (u+1))).map fun j=>rootP wd ((L.drop (256 * j)).take 256)).length=2 ^ (u+1):=by simp
   rw [rootP_two wd _ (by rw [hm];omega) (by rw [hm];omega),hm,leftP_pow u (by omega)]
   have e9:2 ^ (u+8+1)=512 * 2 ^ u:=by rw [show u+8+1=u+9 by omega,Nat.pow_add];omega
   have hL:L.length=2 ^ (u+8+1):=by omega
   have e8:2 ^ (u+8)=256 * 2 ^ u:=by rw [Nat.pow_add];omega
   rw [rootP_two wd L (by omega) (by omega),hL,leftP_pow (u+8) (by omega),e8]
   congr 1
   · rw [← ih (L.take (256 * 2 ^ u)) (by omega) (by rw [List.length_take];omega)]
     congr 1
     rw [h2,List.range_add,List.map_append,List.take_left' (by simp)]
     apply List.map_congr_left
     intro j hj
     have hj:=List.mem_range.1 hj
     have hx:256 * (j+1)≤256 * 2 ^ u:=Nat.mul_le_mul_left _ hj
     rw [List.drop_take,List.take_take,Nat.min_eq_left (by omega)]
   · rw [← ih (L.drop (256 * 2 ^ u)) (by omega) (by rw [List.length_drop];omega)]
     congr 1
     rw [h2,List.range_add,List.map_append,List.drop_left' (by simp),List.map_map]
     apply List.map_congr_left
     intro j hj
     show rootP wd ((L.drop (256 * (2 ^ u+j))).take 256)=_
     rw [List.drop_drop,Nat.mul_add]
end
end Go.Proofs.YtgkehahklccacaaGreatDoor
