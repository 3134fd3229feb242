import Derived.Test.YtcnckjlmldnblaaGreatDoorB1
import Derived.Test.YtcnckjlmldnblaaGreatDoorCards
import Derived.Test.YtcnckjlmldnblaaGreatDoorTie
import Derived.ProofKit
import Derived.OpenShut
import Derived.Deep.DeepHandedRow
import Derived.Lib.LaidU8
import Derived.Lib.SmallJoins
import Derived.SizedLaws
import Derived.MakeChecks
import Derived.Test.YtcnckjlmldnblaaGreatDoorE8
import Derived.SliceStrings
import Derived.Test.YtcnckjlmldnblaaGreatDoorE54
import Derived.Deep.Slices
namespace Go.Proofs.YtcnckjlmldnblaaGreatDoor
open Go Go.RowKit
set_option linter.unusedVariables false
set_option linter.unusedSimpArgs false
open Go.ChangeShapes Go.WideShapes Go.ChangeAt Go.RowKit
set_option linter.unusedVariables false
theorem own:ownKnob Tryz.prog.godebug=none:=by kernel_rfl
theorem laidOut:laidOutB Tryz.prog=true:=by kernel_rfl
theorem g0n:Tryz.prog.globalNamed "docket/docketref9.reserved" = some 0:=by kernel_rfl
theorem g2n:Tryz.prog.globalNamed "docket/text.reserved" = some 1:=by kernel_rfl
theorem g0t:(Tryz.prog.globals[0]?).map (·.type)=some 137:=by kernel_rfl
theorem g2t:(Tryz.prog.globals[1]?).map (·.type)=some 137:=by kernel_rfl
def resData:DataW Unit:=.agg (resL.map fun l=>.lit (.string l))
theorem res_reads {W:World} {n:String} {g:Nat} (hg:Tryz.prog.globalNamed n=some g) (ht:(Tryz.prog.globals[g]?).map (·.type)=some 137) (h:Lib.VarReads Tryz.prog W n resData):ResTab W g:=by
 obtain ⟨g',t,cs,fuel,p,h1,h2,h3,h4⟩:=h
 obtain rfl:g=g':=Option.some.inj (hg.symm.trans h1)
 obtain rfl:(137:TypeId)=t:=Option.some.inj (ht.symm.trans h2)
 intro j hj
 obtain ⟨f',d,q,hd,he⟩:=Lib.array_elem u122 h4 j hj
 rw [c9] at he
 obtain ⟨s,hs,hx,_⟩:=DataW.trod_string Tryz.underlying9 he
 rw [World.var?_cell hg h3 j]
 have hc:cs[j]?=some (.string s):=by
  have:=congrArg (·[0]?) hs
  simpa [List.getElem?_take,List.getElem?_drop] using this
 rw [hc]
 have hlen:resL.length=35:=rfl
 rw [List.getElem?_map,List.getElem?_eq_getElem (by omega)] at hd
 simp only [Option.map_some,Option.some.injEq] at hd
 have hl:=(Prod.mk.inj hx).1
 rw [← hd] at hl
 simp only [DataW.lit.injEq,Lit.string.injEq] at hl
 simp only [resS,List.getD_eq_getElem?_getD,List.getElem?_eq_getElem (show j < resL.length by omega),Option.getD_some]
 rw [hl]
theorem table2 {W:World} (h:laidMetH Tryz.prog [("docket/docketref9.reserved",Rows.laid_docket_docketref9_reserved),("docket/text.reserved",Rows.laid_docket_text_reserved)] W):(ResTab W 0∧ResTab W 1)∧1 < W.heap.size:=by
 rw [MakeChecks.laidMetH_plain _ _ _ (by kernel_rfl)] at h
 have a:=res_reads g2n g2t (Lib.laidMet.reads h (.tail _ (.head _)))
 have b:=res_reads g0n g0t (Lib.laidMet.reads h (.head _))
 exact ⟨⟨b,a⟩,block_lt_of_cell (a 0 (by decide))⟩
def setO (v:Array Value):Obj→Obj
 | .cells _ t frozen=>.cells v t frozen
 | o=>o
/-- A world for the witnesses: the settled one, the tables holding what their initialisers lay. -/
noncomputable def laidStart (os:Os):World :=
 { World.holding Tryz.prog os ⟨#[],#[],[]⟩ with heap:=(((World.holding Tryz.prog os ⟨#[],#[],[]⟩).heap.modify 0 (setO (resL.map fun l=>Value.string ⟨l.toArray⟩).toArray)).modify 1 (setO (resL.map fun l=>Value.string ⟨l.toArray⟩).toArray)) }
section
variable {H : Type} {enc : TypeId × Value → H} {W : World} {fuel : Nat}
end
open Go.ChangeShapes Go.WideShapes Go.ChangeAt
section
variable {H : Type} {enc : TypeId × Value → H} {W : World} {fuel : Nat}
theorem open_textsM {cs:List Value} {x:DataW H × List MemPlace} (h:DataW.trod enc Tryz.prog W 0 (fun _=>true) true fuel 24 cs=some x) (hw:∀ n ∈ x.1.weights Tryz.prog 24,n≤reachBytes) :
 ∃ a n c ks,cs=[.slice a n c]∧RZ W a n c ks∧(∀ m ∈ ks,m.size≤maxLen)∧n≤8796093022208:=by
 rcases open_strings Tryz.underlying24 Tryz.underlying9 c9 h with ⟨rfl,_⟩ | ⟨x,l,c,zs,rfl,_,hl,hm,hz,rfl,hcell,hwz⟩
 · exact ⟨none,0,0,[],rfl,⟨⟨rfl,Nat.le_refl _,by omega,fun i x h=>by simp at h⟩,fun _=>rfl⟩,fun m h=>by simp at h,by omega⟩
 · simp only [if_true] at hz
   have:=hw _ (by simp only [DataW.weights,Tryz.underlying24];exact List.mem_cons_self)
   simp only [strs,List.length_map,List.length_take,List.length_drop,by9,reachBytes] at this
   refine ⟨some x,l,c,zs.take l,rfl,⟨⟨by simp;omega,hl,by omega,fun i y hy=>?_⟩,fun e=>by cases e⟩,fun m hm=>hwz m (List.mem_of_mem_take hm),by omega⟩
   have hil:i < l:=by have:=(List.getElem?_eq_some_iff.1 hy).1;simp at this;omega
   obtain ⟨b,off,rfl⟩:=spot_row (fun j hj=>⟨_,hcell j hj⟩) (by omega)
   refine ⟨b,off,rfl,fun j v hv=>?_⟩
   have hj:j=0:=by have:=(List.getElem?_eq_some_iff.1 hv).1;simp [Sv] at this;omega
   subst hj
   have h1:=hcell i (by omega)
   rw [Addr.add_lit] at h1
   rw [Nat.mul_one,Nat.add_zero,h1]
   rw [List.getElem?_take_of_lt hil] at hy
   simp only [Sv,List.getElem?_cons_zero,Option.some.injEq] at hv
   rw [← hv,List.getD_eq_getElem?_getD,hy];rfl
end
open Go.ChangeShapes Go.WideShapes Go.ChangeAt
theorem c35:Tryz.prog.cellsOf 26=5:=by kernel_rfl
theorem c43:Tryz.prog.cellsOf 50=5:=by kernel_rfl
theorem c33:Tryz.prog.cellsOf 23=1:=by kernel_rfl
theorem by43:Tryz.prog.bytesOf 50=72:=by kernel_rfl
theorem l5 {α:Type} {l:List α} (h:l.length=5):∃ a b c d e,l=[a,b,c,d,e]:=by
 match l,h with
 | [a,b,c,d,e],_=>exact ⟨a,b,c,d,e,rfl⟩
/-- A name with its value, as it is handed in. -/
def Bc.okA (W:World) (b:Bc):Prop:=RZ W b.v.a b.v.l b.v.c b.v.x.ss∧I64 b.v.x.n∧b.v.l≤8796093022208
/-- A node as it is handed in. -/
def Nd.okA (W:World) (nd:Nd):Prop:=NdW W nd∧nd.sl≤8796093022208
section
variable {H : Type} {enc : TypeId × Value → H} {W : World} {fuel : Nat}
theorem open_value {cs:List Value} {x:DataW H × List MemPlace} (h:DataW.trod enc Tryz.prog W 0 (fun _=>true) true fuel 43 cs=some x) (hl:cs.length=4) (hw:∀ n ∈ x.1.weights Tryz.prog 43,n≤reachBytes) :
 ∃ v:Vc,cs=v.cs∧RZ W v.a v.l v.c v.x.ss∧I64 v.x.n∧v.l≤8796093022208:=by
 obtain ⟨ys,n',-,rfl,-,hyl,hf⟩:=DataW.trod_struct Tryz.underlying43 h
 obtain ⟨v2,v3,v4,v5,rfl⟩:=l4 hl
 obtain ⟨z0,z1,z2,z3,rfl⟩:=l4 hyl
 have g0:DataW.trod enc Tryz.prog W 0 (fun _=>true) true n' 41 (([v2,v3,v4,v5].drop 0).take (Tryz.prog.cellsOf 41))=some z0:=hf 0 _ rfl
 have g1:DataW.trod enc Tryz.prog W 0 (fun _=>true) true n' 3 (([v2,v3,v4,v5].drop 1).take (Tryz.prog.cellsOf 3))=some z1:=hf 1 _ rfl
 have g2:DataW.trod enc Tryz.prog W 0 (fun _=>true) true n' 9 (([v2,v3,v4,v5].drop 2).take (Tryz.prog.cellsOf 9))=some z2:=hf 2 _ rfl
 have g3:DataW.trod enc Tryz.prog W 0 (fun _=>true) true n' 24 (([v2,v3,v4,v5].drop 3).take (Tryz.prog.cellsOf 24))=some z3:=hf 3 _ rfl
 simp only [c28,c3,c9,c45,List.drop_zero,List.drop_succ_cons,List.take_succ_cons,List.take_zero,List.getElem?_cons_zero,List.getElem?_cons_succ,List.take_nil] at g0 g1 g2 g3
 obtain ⟨vk,e0,-,-⟩:=DataW.trod_int Tryz.underlying41 g0
 obtain ⟨vn,e1,-,w2⟩:=DataW.trod_int Tryz.underlying3 g1
 obtain ⟨vt,e2,-,-⟩:=DataW.trod_string Tryz.underlying9 g2
 obtain ⟨sa,sl,sc,ss,e3,k4,-,k5⟩:=open_textsM g3 (fun n hn=>hw n (by simp only [List.map_cons,List.map_nil,DataW.weights,Tryz.underlying43,DataW.weightsEach,List.mem_append,List.append_nil];exact Or.inr (Or.inr (Or.inr hn))))
 simp only [List.cons.injEq,and_true] at e0 e1 e2 e3
 subst e0 e1 e2 e3
 exact ⟨⟨⟨vk,vn,vt,ss⟩,sa,sl,sc⟩,rfl,k4,bounds_i64 w2,k5⟩
theorem open_bind {cs:List Value} {x:DataW H × List MemPlace} (h:DataW.trod enc Tryz.prog W 0 (fun _=>true) true fuel 50 cs=some x) (hw:∀ n ∈ x.1.weights Tryz.prog 50,n≤reachBytes) :
 ∃ b:Bc,cs=b.cs∧b.okA W:=by
 obtain ⟨ys,n',-,rfl,hl,hyl,hf⟩:=DataW.trod_struct Tryz.underlying50 h
 rw [c43] at hl
 obtain ⟨v0,v1,v2,v3,v4,rfl⟩:=l5 hl
 obtain ⟨y0,y1,rfl⟩:=l2 hyl
 have f0:DataW.trod enc Tryz.prog W 0 (fun _=>true) true n' 9 (([v0,v1,v2,v3,v4].drop 0).take (Tryz.prog.cellsOf 9))=some y0:=hf 0 _ rfl
 have f1:DataW.trod enc Tryz.prog W 0 (fun _=>true) true n' 43 (([v0,v1,v2,v3,v4].drop 1).take (Tryz.prog.cellsOf 43))=some y1:=hf 1 _ rfl
 simp only [c9,c47,List.drop_zero,List.drop_succ_cons,List.take_succ_cons,List.take_zero,List.getElem?_cons_zero,List.getElem?_cons_succ,List.take_nil] at f0 f1
 obtain ⟨nm,h1,-,-⟩:=DataW.trod_string Tryz.underlying9 f0
 obtain ⟨v,h2,h3⟩:=open_value f1 rfl (fun n hn=>hw n (by simp only [List.map_cons,List.map_nil,DataW.weights,Tryz.underlying50,DataW.weightsEach,List.mem_append,List.append_nil];exact Or.inr hn))
 simp only [List.cons.injEq,and_true,Vc.cs] at h1 h2
 obtain ⟨rfl,rfl,rfl,rfl⟩:=h2
 subst h1
 exact ⟨⟨nm,v⟩,rfl,h3⟩
theorem open_binds {cs:List Value} {x:DataW H × List MemPlace} (h:DataW.trod enc Tryz.prog W 0 (fun _=>true) true fuel 23 cs=some x) (hw:∀ n ∈ x.1.weights Tryz.prog 23,n≤reachBytes) :
 ∃ a n c bs,cs=[.slice a n c]∧RS 5 Bc.cs W a n c bs∧(a=none→c=0)∧(∀ b ∈ bs,b.okA W)∧n≤8796093022208:=by
 rcases Go.Deep.open_slice Tryz.underlying23 h with ⟨rfl,_⟩ | ⟨a,len,cap,m,n,D,Pl,rfl,hb,hl,hm,hmm,rfl,hx⟩
 · exact ⟨none,0,0,[],rfl,⟨rfl,Nat.le_refl _,by omega,fun i x h=>by simp at h⟩,fun _=>rfl,fun nd h=>(by simp at h),by omega⟩
 · simp only [if_true] at hmm
   have hmm':=hmm.symm
   subst hmm'
   rw [c43] at hx
   have hw0:=hw _ (by simp only [DataW.weights,Tryz.underlying23];exact List.mem_cons_self)
   simp only [List.length_map,List.length_range,by43,reachBytes] at hw0
   have each:∀ i,i < len→∃ nd:Bc,(∀ j v,nd.cs[j]?=some v→W.cell? (a.add (i * 5+j))=some v)∧nd.okA W:=by
    intro i hi
    obtain ⟨cs',h1,h2⟩:=hx i (by omega)
    obtain ⟨nd,rfl,hok⟩:=open_bind h2 (fun q hq=>hw q (by
     simp only [DataW.weights,Tryz.underlying23,List.mem_cons,List.mem_append]
     exact Or.inr (Or.inl (weightsAll_mem (List.mem_map.2 ⟨i,List.mem_range.2 hi,rfl⟩) _ hq))))
    obtain ⟨_,h3,h4⟩:=World.cells?_some h1
    refine ⟨nd,fun j v hv=>?_,hok⟩
    have hj:j < 5:=by have:=(List.getElem?_eq_some_iff.1 hv).1;rwa [h3] at this
    rw [← Go.Deep.add_add,h4 j hj,hv]
   haveI:Inhabited Bc:=⟨⟨ByteArray.empty,⟨v0,none,0,0⟩⟩⟩
   obtain ⟨f,hf⟩:=Go.Deep.choose_lt each
   refine ⟨some a,len,cap,(List.range len).map f,rfl,⟨by simp,hl,by omega,fun i nd hi=>?_⟩,(fun e=>by cases e),fun nd hnd=>?_,by omega⟩
   · have hil:i < len:=by have:=(List.getElem?_eq_some_iff.1 hi).1;simpa using this
     obtain rfl:f i=nd:=by simpa [hil] using hi
     obtain ⟨b,off,rfl⟩:=spot_row (W:=W) (n:=1) (fun j hj=>⟨_,by have:=(hf 0 (by omega)).1 0 _ rfl;simpa [show j=0 by omega] using this⟩) (by omega)
     refine ⟨b,off,rfl,fun j v hv=>?_⟩
     have:=(hf i hil).1 j v hv
     rwa [Addr.add_lit,← Nat.add_assoc] at this
   · obtain ⟨i,hi,rfl⟩:=List.mem_map.1 hnd
     exact (hf i (List.mem_range.1 hi)).2
set_option maxRecDepth 100000 in
theorem open_view {r:Reach} {b0:Nat} {v:Value} {d:DataW H} {p:List MemPlace} (hv:Value.okWide Tryz.prog W r b0 26 v) (h:DataW.Trod enc Tryz.prog W 0 (fun _=>true) true 26 v d p) (hw:∀ n ∈ d.weights Tryz.prog 26,n≤reachBytes) :
 ∃ q:Pd,v=.agg q.cs∧VwArg W q:=by
 obtain ⟨cs,rfl,hsz⟩:=okWide_struct Tryz.underlying26 hv
 rw [c35] at hsz
 obtain ⟨l⟩:=cs
 have hsz':l.length=5:=hsz
 clear hsz
 obtain ⟨v0,v1,v2,v3,v4,rfl⟩:=l5 hsz'
 obtain ⟨fuel,hf⟩:=h
 obtain ⟨ys,n',-,hx,-,hyl,hg⟩:=DataW.trod_struct Tryz.underlying26 hf
 simp only [Prod.mk.injEq] at hx
 obtain ⟨rfl,-⟩:=hx
 obtain ⟨y0,y1,y2,y3,y4,rfl⟩:=l5 hyl
 simp only [List.map_cons,List.map_nil,DataW.weights,Tryz.underlying26,DataW.weightsEach,List.mem_append,List.append_nil] at hw
 have f0:DataW.trod enc Tryz.prog W 0 (fun _=>true) true n' 23 (([v0,v1,v2,v3,v4].drop 0).take (Tryz.prog.cellsOf 23))=some y0:=hg 0 _ rfl
 have f1:DataW.trod enc Tryz.prog W 0 (fun _=>true) true n' 24 (([v0,v1,v2,v3,v4].drop 1).take (Tryz.prog.cellsOf 24))=some y1:=hg 1 _ rfl
 have f2:DataW.trod enc Tryz.prog W 0 (fun _=>true) true n' 24 (([v0,v1,v2,v3,v4].drop 2).take (Tryz.prog.cellsOf 24))=some y2:=hg 2 _ rfl
 have f3:DataW.trod enc Tryz.prog W 0 (fun _=>true) true n' 3 (([v0,v1,v2,v3,v4].drop 3).take (Tryz.prog.cellsOf 3))=some y3:=hg 3 _ rfl
 have f4:DataW.trod enc Tryz.prog W 0 (fun _=>true) true n' 3 (([v0,v1,v2,v3,v4].drop 4).take (Tryz.prog.cellsOf 3))=some y4:=hg 4 _ rfl
 simp only [c33,c45,c3,List.drop_zero,List.drop_succ_cons,List.take_succ_cons,List.take_zero,List.getElem?_cons_zero,List.getElem?_cons_succ,List.take_nil] at f0 f1 f2 f3 f4
 obtain ⟨va,vl,vc,bs,e0,b1,b2,b3,b4⟩:=open_binds f0 (fun n hn=>hw n (.inl hn))
 obtain ⟨oa,ol,oc,os,e1,o1,-,o3⟩:=open_textsM f1 (fun n hn=>hw n (.inr (.inl hn)))
 obtain ⟨ra,rl,rc,rs,e2,r1,-,r3⟩:=open_textsM f2 (fun n hn=>hw n (.inr (.inr (.inl hn))))
 obtain ⟨ck,e3,-,w3⟩:=DataW.trod_int Tryz.underlying3 f3
 obtain ⟨st,e4,-,w4⟩:=DataW.trod_int Tryz.underlying3 f4
 simp only [List.cons.injEq,and_true] at e0 e1 e2 e3 e4
 subst e0 e1 e2 e3 e4
 exact ⟨⟨va,vl,vc,bs,oa,ol,oc,os,ra,rl,rc,rs,ck,st⟩,rfl,⟨b1,b2,o1,r1,b3,⟨b4,o3,r3⟩,bounds_i64 w3,bounds_i64 w4⟩⟩
theorem open_nodeZ {cs:List Value} {x:DataW H × List MemPlace} (h:DataW.trod enc Tryz.prog W 0 (fun _=>true) true fuel 56 cs=some x) (hw:∀ n ∈ x.1.weights Tryz.prog 56,n≤reachBytes) :
 ∃ nd:Nd,cs=nd.cs∧nd.okA W:=by
 obtain ⟨ys,n',-,rfl,hl,hyl,hf⟩:=DataW.trod_struct Tryz.underlying56 h
 rw [c49] at hl
 obtain ⟨v0,v1,v2,v3,v4,v5,v6,rfl⟩:=l7 hl
 obtain ⟨y0,y1,y2,y3,rfl⟩:=l4 hyl
 have f0:DataW.trod enc Tryz.prog W 0 (fun _=>true) true n' 3 (([v0,v1,v2,v3,v4,v5,v6].drop 0).take (Tryz.prog.cellsOf 3))=some y0:=hf 0 _ rfl
 have f1:DataW.trod enc Tryz.prog W 0 (fun _=>true) true n' 9 (([v0,v1,v2,v3,v4,v5,v6].drop 1).take (Tryz.prog.cellsOf 9))=some y1:=hf 1 _ rfl
 have f2:DataW.trod enc Tryz.prog W 0 (fun _=>true) true n' 43 (([v0,v1,v2,v3,v4,v5,v6].drop 2).take (Tryz.prog.cellsOf 43))=some y2:=hf 2 _ rfl
 have f3:DataW.trod enc Tryz.prog W 0 (fun _=>true) true n' 54 (([v0,v1,v2,v3,v4,v5,v6].drop 6).take (Tryz.prog.cellsOf 54))=some y3:=hf 3 _ rfl
 simp only [c3,c9,c47,c42,List.drop_zero,List.drop_succ_cons,List.take_succ_cons,List.take_zero,List.getElem?_cons_zero,List.getElem?_cons_succ,List.take_nil] at f0 f1 f2 f3
 obtain ⟨op,h0,-,w0⟩:=DataW.trod_int Tryz.underlying3 f0
 obtain ⟨nm,h1,-,w1⟩:=DataW.trod_string Tryz.underlying9 f1
 simp only [List.map_cons,List.map_nil,DataW.weights,Tryz.underlying56,DataW.weightsEach,List.mem_append,List.append_nil] at hw
 obtain ⟨ka,kl,kc,ks,h3,k3⟩:=open_kids f3 (fun n hn=>hw n (Or.inr (Or.inr (Or.inr hn))))
 obtain ⟨v,h2,k4,k5,k6⟩:=open_value f2 rfl (fun n hn=>hw n (Or.inr (Or.inr (Or.inl hn))))
 simp only [List.cons.injEq,and_true,Vc.cs] at h0 h1 h2 h3
 obtain ⟨rfl,rfl,rfl,rfl⟩:=h2
 subst h0 h1 h3
 exact ⟨⟨op,nm,v.x.k,v.x.n,v.x.t,v.a,v.l,v.c,ka,kl,kc,ks⟩,rfl,⟨⟨k3,w1,k5⟩,_,k4⟩,k6⟩
theorem open_nodesZ {cs:List Value} {x:DataW H × List MemPlace} (h:DataW.trod enc Tryz.prog W 0 (fun _=>true) true fuel 22 cs=some x) (hw:∀ n ∈ x.1.weights Tryz.prog 22,n≤reachBytes) :
 ∃ a n c ns,cs=[.slice a n c]∧RS 7 Nd.cs W a n c ns∧(a=none→c=0)∧(∀ nd ∈ ns,nd.okA W)∧n≤1353245080300:=by
 rcases Go.Deep.open_slice Tryz.underlying22 h with ⟨rfl,_⟩ | ⟨a,len,cap,m,n,D,Pl,rfl,hb,hl,hm,hmm,rfl,hx⟩
 · exact ⟨none,0,0,[],rfl,⟨rfl,Nat.le_refl _,by omega,fun i x h=>by simp at h⟩,fun _=>rfl,fun nd h=>(by simp at h),by omega⟩
 · simp only [if_true] at hmm
   have hmm':=hmm.symm
   subst hmm'
   rw [c49] at hx
   have hw0:=hw _ (by simp only [DataW.weights,Tryz.underlying22];exact List.mem_cons_self)
   simp only [List.length_map,List.length_range,by49,reachBytes] at hw0
   have each:∀ i,i < len→∃ nd:Nd,(∀ j v,nd.cs[j]?=some v→W.cell? (a.add (i * 7+j))=some v)∧nd.okA W:=by
    intro i hi
    obtain ⟨cs',h1,h2⟩:=hx i (by omega)
    obtain ⟨nd,rfl,hok⟩:=open_nodeZ h2 (fun q hq=>hw q (by
     simp only [DataW.weights,Tryz.underlying22,List.mem_cons,List.mem_append]
     exact Or.inr (Or.inl (weightsAll_mem (List.mem_map.2 ⟨i,List.mem_range.2 hi,rfl⟩) _ hq))))
    obtain ⟨_,h3,h4⟩:=World.cells?_some h1
    refine ⟨nd,fun j v hv=>?_,hok⟩
    have hj:j < 7:=by have:=(List.getElem?_eq_some_iff.1 hv).1;rwa [h3] at this
    rw [← Go.Deep.add_add,h4 j hj,hv]
   haveI:Inhabited Nd:=⟨⟨0,ByteArray.empty,0,0,ByteArray.empty,none,0,0,none,0,0,[]⟩⟩
   obtain ⟨f,hf⟩:=Go.Deep.choose_lt each
   refine ⟨some a,len,cap,(List.range len).map f,rfl,⟨by simp,hl,by omega,fun i nd hi=>?_⟩,(fun e=>by cases e),fun nd hnd=>?_,by omega⟩
   · have hil:i < len:=by have:=(List.getElem?_eq_some_iff.1 hi).1;simpa using this
     obtain rfl:f i=nd:=by simpa [hil] using hi
     obtain ⟨b,off,rfl⟩:=spot_row (W:=W) (n:=1) (fun j hj=>⟨_,by have:=(hf 0 (by omega)).1 0 _ rfl;simpa [show j=0 by omega] using this⟩) (by omega)
     refine ⟨b,off,rfl,fun j v hv=>?_⟩
     have:=(hf i hil).1 j v hv
     rwa [Addr.add_lit,← Nat.add_assoc] at this
   · obtain ⟨i,hi,rfl⟩:=List.mem_map.1 hnd
     exact (hf i (List.mem_range.1 hi)).2
end
end Go.Proofs.YtcnckjlmldnblaaGreatDoor
