import Derived.Test.YtgkehahklccacaaGreatDoorC28
import Derived.Test.YtgkehahklccacaaGreatDoorCL4
namespace Go.Proofs.YtgkehahklccacaaGreatDoor
open Go Go.RowKit
open Go.Lib (hid)
set_option maxRecDepth 100000
set_option maxHeartbeats 1000000
set_option linter.unusedVariables false
set_option linter.unusedSimpArgs false
section
open Go.Maps Go.WideMaps Go.ChangeMaps
theorem pow8 {l:Nat} (h:l < 8) (i:Nat):(i * 2 ^ l) % 256+2 ^ l≤256:=by
 have:l=0∨l=1∨l=2∨l=3∨l=4∨l=5∨l=6∨l=7:=by omega
 rcases this with rfl | rfl | rfl | rfl | rfl | rfl | rfl | rfl <;> omega
theorem pow8_le {l:Nat} (h:l < 8):1≤2 ^ l∧2 ^ l≤128:=by
 have:l=0∨l=1∨l=2∨l=3∨l=4∨l=5∨l=6∨l=7:=by omega
 rcases this with rfl | rfl | rfl | rfl | rfl | rfl | rfl | rfl <;> omega
theorem DS.of_owns {w:World} {base:Nat} {a:Option Addr} {n c:Nat} {ds:List Dg} (h:w.ownsRow base 38 32 (.slice a n c) n (ds.flatMap dgE)) (hn:n≤1000000):DS w a n c ds:=RS.of_owns h (by decide) dgE_len (by omega)
structure Spt (w:World) (T:TT) (Y:TY) (l i:Nat) (ds:List Dg) (av:Option Addr) (n c:Nat):Prop where
 dd:DS w av n c ds
 le:(i * 2 ^ (l % 8)) % 256+2 ^ (l % 8)≤n
 n6:n≤1000000
 eq:rootP T.wd ((ds.drop ((i * 2 ^ (l % 8)) % 256)).take (2 ^ (l % 8)))=rootP T.wd ((T.L.drop (i * 2 ^ l)).take (2 ^ l))
 at_:(encS (Y.Mf (l / 8) (i * 2 ^ (l % 8) / 256))=.slice av n c∧(Y.Mf (l / 8) (i * 2 ^ (l % 8) / 256)).isSome=true)∨(Y.Mf (l / 8) (i * 2 ^ (l % 8) / 256)=none∧encS (Y.Mo (l / 8) (i * 2 ^ (l % 8) / 256))=.slice av n c)
theorem at_find {w:World} {τ:Nat→Nat} {gt gd:Nat} {T:TT} {Y:TY} (h:TS w τ gt gd T Y) (l i:Nat) (hl:l < 16) (hi:(i+1) * 2 ^ l≤T.L.length):∃ ds av n c,Spt w T Y l i ds av n c:=by
 have hfew:=h.few
 rw [Nat.add_mul,Nat.one_mul] at hi
 rcases Nat.lt_or_ge l 8 with h8 | h8
 · have e1:l / 8=0:=by omega
   have e2:l % 8=l:=by omega
   obtain ⟨a,ha⟩:∃ a,a=(i * 2 ^ l) % 256:=⟨_,rfl⟩
   obtain ⟨j,hj⟩:∃ j,j=(i * 2 ^ l) / 256:=⟨_,rfl⟩
   have hp:=pow8 h8 i
   have hq:=pow8_le h8
   rw [← ha] at hp
   have hf:i * 2 ^ l=256 * j+a:=by omega
   by_cases hjF:j < T.L.length / 256
   · obtain ⟨g,c,m1,m2,-⟩:=h.full j hjF
     refine ⟨chunk T.L j,some ⟨g,0,none⟩,256,c,?_,?_,?_,?_,?_⟩
     · exact m2
     · rw [e2,← ha];exact hp
     · decide
     · rw [e2,← ha]
       unfold chunk
       rw [List.drop_take,List.take_take,List.drop_drop,Nat.min_eq_left (by omega),hf]
     · rw [e1,e2,← hj,m1];exact .inl ⟨rfl,rfl⟩
   · have hjE:j=T.L.length / 256:=by omega
     have ho:=h.o0.1
     rw [← hjE] at ho
     obtain ⟨av,c,hv,-⟩:=owns_shape ho
     rw [hv] at ho
     refine ⟨T.L.drop (256 * j),av,T.L.length % 256,c,?_,?_,?_,?_,?_⟩
     · exact DS.of_owns ho (by omega)
     · rw [e2,← ha];omega
     · omega
     · rw [e2,← ha,List.drop_drop,hf]
     · rw [e1,e2,← hj]
       exact .inr ⟨h.fno j (by omega),hv⟩
 · obtain ⟨u,hu⟩:∃ u,l=u+8:=⟨l - 8,by omega⟩
   subst hu
   have hu8:u < 8:=by omega
   have e1:(u+8) / 8=1:=by omega
   have e2:(u+8) % 8=u:=by omega
   have e8:2 ^ (u+8)=256 * 2 ^ u:=by rw [Nat.pow_add];omega
   have hq:=pow8_le hu8
   obtain ⟨q,hqq⟩:∃ q,q=i * 2 ^ u:=⟨_,rfl⟩
   have hi2:i * 2 ^ (u+8)=256 * q:=by rw [e8,hqq,Nat.mul_left_comm]
   rw [hi2,e8] at hi
   have ho:=h.o1.1
   obtain ⟨av,c,hv,-⟩:=owns_shape ho
   rw [hv] at ho
   have hqF:q+2 ^ u≤T.L.length / 256:=by omega
   have hq0:q / 256=0:=by omega
   have hqm:q % 256=q:=by omega
   refine ⟨rootsP T.wd T.L,av,T.L.length / 256,c,?_,?_,?_,?_,?_⟩
   · exact DS.of_owns ho (by omega)
   · rw [e2,← hqq,hqm];exact hqF
   · omega
   · rw [e2,← hqq,hqm,hi2,e8]
     rw [← rootP_comp T.wd u ((T.L.drop (256 * q)).take (256 * 2 ^ u)) (by omega) (by rw [List.length_take,List.length_drop];omega)]
     congr 1
     apply List.ext_getElem?
     intro k
     by_cases hk:k < 2 ^ u
     · unfold rootsP
       rw [List.getElem?_take,if_pos hk,List.getElem?_drop,List.getElem?_map,List.getElem?_range (by omega),List.getElem?_map,List.getElem?_range hk]
       simp only [Option.map_some]
       congr 2
       unfold chunk
       rw [List.drop_take,List.take_take,List.drop_drop,Nat.min_eq_left (by omega),Nat.mul_add]
     · rw [List.getElem?_eq_none (by rw [List.length_take];omega),List.getElem?_eq_none (by simp;omega)]
   · rw [e1,e2,← hqq,hq0]
     exact .inr ⟨h.f1,hv⟩
theorem slice_midD (wx:World) (a:Option Addr) (n c k m:Nat) (hk:k≤m) (hm:m≤c):(Instr.slice 23 (.slice a n c) (some (.int .i64 (k:Int))) (some (.int .i64 (m:Int))) none).run Tryz.prog wx=.ok (.slice (dropD a k c) (m - k) (c - k)) wx:=by
 obtain ⟨i,hi,hz0,hz1,hz2⟩:=info_parts sl23.inf
 have he:Tryz.prog.elem 23=38:=by simp [Program.elem,sl23.und]
 have h1:Tryz.prog.underlying 23=some (.slice (Tryz.prog.elem 23)):=by rw [he];exact sl23.und
 have h2:(sizeOf (Tryz.prog.elem 23)).run Tryz.prog wx=.ok 32 wx:=by rw [he];simp [sizeOf,typeInfo,hi,hz1]
 rw [run_slice_lh wx 23 a n c h1 .i64 .i64 k m (by omega) (by omega) (by omega),h2]
 simp [Result.andThen,sliced,dropD]
set_option maxHeartbeats 8000000
theorem at_any (w:World) (τ:Nat→Nat) (gt gd:Nat) (T:TT) (Y:TY) (h:TS w τ gt gd T Y) (l i:Nat) (hl:l < 16) (hi:(i+1) * 2 ^ l≤T.L.length) (ht:RoundTab w) :
 Calls Tryz.prog 62 #[.pointer (some ⟨gt,0,none⟩),.agg #[.int .i64 (l:Int),.int .i64 (i:Int)]] w fun e w'=>e=.returned (.agg (dgA (rootP T.wd ((T.L.drop (i * 2 ^ l)).take (2 ^ l))).1))∧Below w.heap.size w w':=by
 obtain ⟨ds,av,n,c,hsp⟩:=at_find h l i hl hi
 have hfew:=h.few
 have h4:=h.sz
 have hwd:=h.wdb
 obtain ⟨E,hE⟩:∃ E,E=dgA (rootP T.wd ((T.L.drop (i * 2 ^ l)).take (2 ^ l))).1:=⟨_,rfl⟩
 have HES:=hid (show E.size=32 by rw [hE,dgA_size,(rootP T.wd ((T.L.drop (i * 2 ^ l)).take (2 ^ l))).2])
 have HE1:=hid (show E.all (·.oneCell')=true by rw [hE];exact dgA_all _)
 obtain ⟨p,hp⟩:∃ p,p=2 ^ (l % 8):=⟨_,rfl⟩
 have hp8:=pow8_le (show l % 8 < 8 by omega)
 rw [← hp] at hp8
 obtain ⟨lv,hlv⟩:∃ lv,lv=l / 8:=⟨_,rfl⟩
 obtain ⟨up,hup⟩:∃ up,up=l % 8:=⟨_,rfl⟩
 have h2l:p≤2 ^ l:=by rw [hp];exact Nat.pow_le_pow_right (by decide) (by omega)
 have hip:i * p+p≤60000:=by
  have h1:(i+1) * p≤(i+1) * 2 ^ l:=Nat.mul_le_mul_left _ h2l
  rw [Nat.add_mul,Nat.one_mul] at h1
  omega
 obtain ⟨fr,hfr⟩:∃ fr,fr=i * p:=⟨_,rfl⟩
 obtain ⟨j,hj⟩:∃ j,j=fr / 256:=⟨_,rfl⟩
 obtain ⟨a,ha⟩:∃ a,a=fr % 256:=⟨_,rfl⟩
 have hs1:a+p≤n:=by have:=hsp.le;rw [← hp,← hfr,← ha] at this;exact this
 have hs2:=hsp.eq
 rw [← hp,← hfr,← ha] at hs2
 have hs3:=hsp.at_
 rw [← hp,← hfr,← hj,← hlv] at hs3
 have hdd:=hsp.dd
 have hn6:=hsp.n6
 have hcn:=hdd.2.1
 have hE2:E=dgA (rootP T.wd ((ds.drop a).take p)).1:=by rw [hE,hs2]
 rw [← hE]
 obtain ⟨b3,hb3⟩:∃ b3,b3=w.heap.size:=⟨_,rfl⟩
 obtain ⟨rb,hrb⟩:∃ rb,rb=b3+1:=⟨_,rfl⟩
 obtain ⟨w1,hw1⟩:∃ w1,w1=w.alloc (.cells #[.int .i64 (l:Int),.int .i64 (i:Int)] 133):=⟨_,rfl⟩
 obtain ⟨w2,hw2⟩:∃ w2,w2=w1.alloc (.cells (dgA zDg.1) 38):=⟨_,rfl⟩
 have hb1:Below w.heap.size w w1:=by rw [hw1];exact (Below.refl _ _).alloc (Nat.le_refl _) _
 have hz1:w1.heap.size=rb:=by rw [hw1,World.size_alloc];omega
 have hz2:w2.heap.size=rb+1:=by rw [hw2,World.size_alloc];omega
 have hb2:Below w.heap.size w w2:=by rw [hw2];exact hb1.alloc (by omega) _
 have hx3:w2.heap[b3]?=some (.cells #[.int .i64 (l:Int),.int .i64 (i:Int)] 133 (0,0)):=by rw [hw2,alOld _ _ _ (by omega),hw1,hb3];exact heap_alloc_new _ _
 have hx0:w2.heap[rb]?=some (.cells (dgA zDg.1) 38 (0,0)):=by rw [hw2,← hz1];exact heap_alloc_new _ _
 have hts:=h.below hb2
 have c3:=hts.cells.2.2.2.1
 have c5:=hts.cells.2.2.2.2.2.1
 have c6:w2.cell? ⟨gt,6,none⟩=some (.map (some Y.ob)):=by rw [cell_of_row _ _ _ _ _ _ hts.box];rfl
 have k0:=cell_of_row w2 b3 0 _ _ _ hx3
 have k1:=cell_of_row w2 b3 1 _ _ _ hx3
 simp only [List.getElem?_toArray,List.getElem?_cons_zero,List.getElem?_cons_succ] at k0 k1
 have d1:(l:Int).tdiv 8=(lv:Int):=by rw [hlv];rfl
 have d2:(l:Int) / 8=(lv:Int):=by omega
 have d3:(l:Int).tmod 8=(up:Int):=by rw [hup];rfl
 have d4:(l:Int) % 8=(up:Int):=by omega
 have d5:IntKind.i64.wrap (lv:Int)=(lv:Int):=IntWalk.i64_in _ (by omega)
 have d6:IntKind.i64.wrap (up:Int)=(up:Int):=IntWalk.i64_in _ (by omega)
 have d7:lv≤1:=by omega
 have d8:up≤7:=by omega
 have HT:=hid (And.intro h ht);have HTS:=hid hts;have HB2:=hid hb2;have HX0:=hid hx0;have HX3:=hid hx3;have HZ2:=hid hz2
 have HAR:=hid (And.intro hlv (And.intro hup (And.intro hfr (And.intro hj (And.intro ha (And.intro hs1 (And.intro hp8 (And.intro hip (And.intro hfew (And.intro h4 (And.intro hn6 (And.intro hcn hwd))))))))))))
 have HS3:=hid hs3;have HDD:=hid hdd;have HE2:=hid hE2;have HP:=hid (show p=2 ^ up by rw [hp,hup])
 have HB3:=hid hb3;have HRB:=hid hrb
 have hw1':w.alloc (.cells #[.int .i64 (l:Int),.int .i64 (i:Int)] 133)=w1:=hw1.symm
 have hw2':w1.alloc (.cells #[.int .u8 0,.int .u8 0,.int .u8 0,.int .u8 0,.int .u8 0,.int .u8 0,.int .u8 0,.int .u8 0,.int .u8 0,.int .u8 0,.int .u8 0,.int .u8 0,.int .u8 0,.int .u8 0,.int .u8 0,.int .u8 0,.int .u8 0,.int .u8 0,.int .u8 0,.int .u8 0,.int .u8 0,.int .u8 0,.int .u8 0,.int .u8 0,.int .u8 0,.int .u8 0,.int .u8 0,.int .u8 0,.int .u8 0,.int .u8 0,.int .u8 0,.int .u8 0] 38)=w2:=hw2.symm
 have hb3':w.heap.size=b3:=hb3.symm
 have hz1':w1.heap.size=rb:=hz1
 clear hsp hE hE2 hs1 hs2 hs3 hdd hn6 hcn hfr hj ha hip h2l hlv hup hp8 hp hfew h4 hwd h hl hi ht hb1 hb2 hz1 hz2 hx3 hx0 hts hw1 hw2 hb3 hrb
 go_enter Tryz.func62,Tryz.ntmps62
 go_wp2_with fail
 clear hw1' hw2' hb3' hz1'
 go_quiet (fail)
 obtain ⟨w3,hw3⟩:∃ w3,w3=w2.drewN nq:=⟨_,rfl⟩
 have e1:w3.cell? ⟨b3,1,none⟩=some (.int .i64 (i:Int)):=by rw [hw3];exact k1
 have HB3W:=hid (show Below w.heap.size w w3 by rw [hw3];exact below_drewN HB2.out nq)
 have HX03:=hid (show w3.heap[rb]?=some (.cells (dgA zDg.1) 38 (0,0)) by rw [hw3];exact HX0.out)
 have HZ3:=hid (show w3.heap.size=rb+1 by rw [hw3];exact HZ2.out)
 rw [← hw3]
 clear hw3 c3 c5 c6 k0 k1 d1 d2 d3 d4 d5 d6 HTS HB2 HX0 HX3 HZ2
 go_upto_region 3 with (fail)
 have hsh:wrap64 ((i:Int) * 2 ^ up)=(fr:Int):=by
  have h1:(i:Int) * 2 ^ up=(fr:Int):=by rw [HAR.out.2.2.1,HP.out];push_cast;rfl
  rw [h1]
  exact wrap64_small (by omega) (by have:=HAR.out.2.2.1;have:=HAR.out.2.2.2.2.2.2.2.1;omega)
 rw [hsh]
 clear hsh e1
 have hf6:fr≤60000:=by have:=HAR.out.2.2.1;have:=HAR.out.2.2.2.2.2.2.2.1;omega
 have f1:(fr:Int) / 256=(j:Int):=by have:=HAR.out.2.2.2.1;omega
 have hj6:j≤300:=by have:=HAR.out.2.2.2.1;omega
 obtain ⟨w4,hw4⟩:∃ w4,w4=w3.alloc (.cells #[.int .i64 (lv:Int),.int .i64 (j:Int)] 121):=⟨_,rfl⟩
 obtain ⟨kb,hkb⟩:∃ kb,kb=w3.heap.size:=⟨_,rfl⟩
 have hb4:Below w.heap.size w w4:=by rw [hw4];exact HB3W.out.alloc (by have:=HZ3.out;have:=HRB.out;have:=HB3.out;omega) _
 have hx4:w4.heap[kb]?=some (.cells #[.int .i64 (lv:Int),.int .i64 (j:Int)] 121 (0,0)):=by rw [hw4,hkb];exact heap_alloc_new _ _
 have HX04:=hid (show w4.heap[rb]?=some (.cells (dgA zDg.1) 38 (0,0)) by rw [hw4,alOld _ _ _ (by have:=HZ3.out;omega)];exact HX03.out)
 have HTS4:=hid (HT.out.1.below hb4)
 have HB4:=hid hb4;have HX4:=hid hx4;have HKB:=hid hkb;have HZ4:=hid (show w4.heap.size=rb+2 by rw [hw4,World.size_alloc,HZ3.out])
 have hw4':w3.alloc (.cells #[.int .i64 (lv:Int),.int .i64 (j:Int)] 121)=w4:=hw4.symm
 have hkb':w3.heap.size=kb:=hkb.symm
 clear hb4 hx4 hw4 hkb
 go_wp2_with fail
 clear hw4' hkb' f1
 have c5:=HTS4.out.cells.2.2.2.2.2.1
 have c6:w4.cell? ⟨gt,6,none⟩=some (.map (some Y.ob)):=by rw [cell_of_row _ _ _ _ _ _ HTS4.out.box];rfl
 have k0:=cell_of_row w4 kb 0 _ _ _ HX4.out
 have k1:=cell_of_row w4 kb 1 _ _ _ HX4.out
 simp only [List.getElem?_toArray,List.getElem?_cons_zero,List.getElem?_cons_succ] at k0 k1
 have hd7:=HAR.out.2.2.2.2.2.2.1
 have hmod:(fr:Int) % 256=(a:Int):=by have:=HAR.out.2.2.2.2.1;omega
 have ha255:a≤255:=by have:=HAR.out.2.2.2.2.1;omega
 have hsc:encS (Y.Mf lv j)=.slice av n c∧(Y.Mf lv j).isSome=true∨Y.Mf lv j=none∧encS (Y.Mo lv j)=.slice av n c:=HS3.out
 rcases hsc with ⟨hs,hso⟩ | ⟨hs,hso⟩
 · have hlk:=fun q=>(show MAt (w4.drewN q) Y.fb Y.nf Y.Mf from HTS4.out.mf.keep rfl).look_ok (l:=lv) (j:=j) (by omega) (by omega)
   rw [hs,hso] at hlk
   clear c6 hs hso
   go_quiet (fail)
   clear hlk c5 k0 k1
   go_wp2_with fail
   rw [hmod]
   obtain ⟨W5,hW5⟩:∃ W5,W5=w4.drewN nq:=⟨_,rfl⟩
   have g3:W5.cell? ⟨gt,3,none⟩=some (.int .i64 T.wd):=by rw [hW5];exact HTS4.out.cells.2.2.2.1
   have HB5:=hid (show Below w.heap.size w W5 by rw [hW5];exact below_drewN HB4.out nq)
   have HX05:=hid (show W5.heap[rb]?=some (.cells (dgA zDg.1) 38 (0,0)) by rw [hW5];exact HX04.out)
   rw [← hW5]
   clear hW5 hmod
   obtain ⟨e,he⟩:∃ e,e=a+p:=⟨_,rfl⟩
   have s1:IntKind.i64.wrap (2 ^ up)=(p:Int):=by
    have:(2:Int) ^ up=(p:Int):=by rw [HP.out];push_cast;rfl
    rw [this];exact IntWalk.i64_in _ (by omega)
   have s2:IntKind.i64.wrap ((a:Int)+(p:Int))=(e:Int):=by
    rw [he];push_cast;exact IntWalk.i64_in _ (by omega)
   have hsl:=fun wx=>slice_midD wx av n c a e (by omega) (by have:=HAR.out;omega)
   have hep:e - a=p:=by omega
   rw [hep] at hsl
   have HRT:=hid (show Calls Tryz.prog 77 #[.int .i64 T.wd,.slice (dropD av a c) p (c - a)] W5.drew (fun e w'=>e=.returned (.agg E)∧Below W5.drew.heap.size W5.drew w') from HE2.out ▸ root_any W5.drew T.wd (by have:=HAR.out;omega) (by have:=HAR.out;omega) (dropD av a c) p (c - a) ((ds.drop a).take p)
    (by have h1:=((show DS W5.drew av n c ds from HDD.out.below (show Below w.heap.size w W5.drew from ⟨HB5.out.os,HB5.out.tape,HB5.out.output,HB5.out.size,HB5.out.block⟩)).drop a (by have:=HAR.out;omega)).take p (by have:=HAR.out;omega);exact h1) (by omega) (rt_below HT.out.2 (show Below w.heap.size w W5.drew from ⟨HB5.out.os,HB5.out.tape,HB5.out.output,HB5.out.size,HB5.out.block⟩) (by have:=HAR.out;omega)) (by have:=HB5.out.size;have:=HAR.out;show 3 < W5.heap.size;omega))
   have HEP:=hid (And.intro he hep)
   clear he hep ha255 hf6 hj6 hd7 d7
   go_still_tail 11,(by kernel_rfl)
   change wpList _ _ _ _ _ W5.drew
   clear s1 s2 hsl g3
   have hx0d:W5.drew.heap[rb]?=some (.cells (dgA zDg.1) 38 (0,0)):=HX05.out
   have HX0D:=hid hx0d
   have HBD:=hid (show Below w.heap.size w W5.drew from ⟨HB5.out.os,HB5.out.tape,HB5.out.output,HB5.out.size,HB5.out.block⟩)
   clear hx0d
   go_wp2_with (first | (go_at_call 77;refine HRT.out.mono ?_;rintro e w6 ⟨rfl,hb6⟩;have hg6:=(hb6.block rb (Array.getElem?_eq_some_iff.1 HX0D.out).1).trans HX0D.out;have HG6:=hid hg6;have HTH:=hid (there_block hg6);have HGF:=hid (setCells_all hg6 E.toList (by rw [Array.length_toList,HES.out];rfl));have HB6:=hid (HBD.out.trans (hb6.mono HBD.out.size));clear hg6 hb6) | (refine wpList_store_mid rfl 38 (.tmp 4) (.tmp 55) (by rfl) rb 0 E (by rfl) (by rfl) (by rw [HES.out];exact HTH.out) (by rw [HES.out];exact info38) HE1.out ?_))
   have HB9:=hid (HB6.out.grown (setCells_grown rb E.toList 0 w6) HB6.out.size (fun k hk=>by rw [← Option.some.inj hk];have:=HRB.out;have:=HB3.out;omega))
   generalize w6.setCells rb 0 E.toList=w9 at *
   have hGF:w9.heap[rb]?=some (.cells E 38 (0,0)):=by have:=HGF.out;simpa using this
   have HGF9:=hid hGF
   refine bodyPost_ret (v:=.agg E) (results_cell_row (p:=4) (ty:=38) rfl _ _ rb 38 E (0,0) _ rfl HGF9.out Tryz.underlying38 rfl (by rw [HES.out];exact info38)) rfl ⟨rfl,HB9.out⟩
 · have hlk:=fun q=>(show MAt (w4.drewN q) Y.fb Y.nf Y.Mf from HTS4.out.mf.keep rfl).look_ok (l:=lv) (j:=j) (by omega) (by omega)
   rw [hs] at hlk
   have hlk:∀ q,(Instr.lookup 95 (.map (some Y.fb)) (.agg #[.int .i64 (lv:Int),.int .i64 (j:Int)]) true).run Tryz.prog (w4.drewN q)=.ok (.tuple #[.slice none 0 0,.bool false]) (w4.drewN q):=hlk
   clear hs
   go_quiet (fail)
   clear hlk c5
   obtain ⟨W4,hW4⟩:∃ W4,W4=w4.drewN nq:=⟨_,rfl⟩
   have HTS5:=hid (show TS W4 τ gt gd T Y by rw [hW4];exact HTS4.out.below (below_drewN (Below.refl _ _) nq))
   have HB4':=hid (show Below w.heap.size w W4 by rw [hW4];exact below_drewN HB4.out nq)
   have HX04':=hid (show W4.heap[rb]?=some (.cells (dgA zDg.1) 38 (0,0)) by rw [hW4];exact HX04.out)
   have c6':W4.cell? ⟨gt,6,none⟩=some (.map (some Y.ob)):=by rw [hW4];exact c6
   have k0':W4.cell? ⟨kb,0,none⟩=some (.int .i64 (lv:Int)):=by rw [hW4];exact k0
   have k1':W4.cell? ⟨kb,1,none⟩=some (.int .i64 (j:Int)):=by rw [hW4];exact k1
   rw [← hW4]
   clear hW4 c6 k0 k1 HTS4 HB4 HX04
   have HTS4:=HTS5;have HB4:=HB4';have HX04:=HX04'
   clear HTS5 HB4' HX04'
   have hlk:=fun q=>(show MAt (W4.drewN q) Y.ob Y.no Y.Mo from HTS4.out.mo.keep rfl).look (l:=lv) (j:=j) (by omega) (by omega)
   rw [hso] at hlk
   clear hso
   go_wp2_with fail
   go_quiet (fail)
   clear hlk c6' k0' k1'
   go_wp2_with fail
   rw [hmod]
   obtain ⟨W5,hW5⟩:∃ W5,W5=W4.drewN nq:=⟨_,rfl⟩
   have g3:W5.cell? ⟨gt,3,none⟩=some (.int .i64 T.wd):=by rw [hW5];exact HTS4.out.cells.2.2.2.1
   have HB5:=hid (show Below w.heap.size w W5 by rw [hW5];exact below_drewN HB4.out nq)
   have HX05:=hid (show W5.heap[rb]?=some (.cells (dgA zDg.1) 38 (0,0)) by rw [hW5];exact HX04.out)
   rw [← hW5]
   clear hW5 hmod
   obtain ⟨e,he⟩:∃ e,e=a+p:=⟨_,rfl⟩
   have s1:IntKind.i64.wrap (2 ^ up)=(p:Int):=by
    have:(2:Int) ^ up=(p:Int):=by rw [HP.out];push_cast;rfl
    rw [this];exact IntWalk.i64_in _ (by omega)
   have s2:IntKind.i64.wrap ((a:Int)+(p:Int))=(e:Int):=by
    rw [he];push_cast;exact IntWalk.i64_in _ (by omega)
   have hsl:=fun wx=>slice_midD wx av n c a e (by omega) (by have:=HAR.out;omega)
   have hep:e - a=p:=by omega
   rw [hep] at hsl
   have HRT:=hid (show Calls Tryz.prog 77 #[.int .i64 T.wd,.slice (dropD av a c) p (c - a)] W5.drew (fun e w'=>e=.returned (.agg E)∧Below W5.drew.heap.size W5.drew w') from HE2.out ▸ root_any W5.drew T.wd (by have:=HAR.out;omega) (by have:=HAR.out;omega) (dropD av a c) p (c - a) ((ds.drop a).take p)
    (by have h1:=((show DS W5.drew av n c ds from HDD.out.below (show Below w.heap.size w W5.drew from ⟨HB5.out.os,HB5.out.tape,HB5.out.output,HB5.out.size,HB5.out.block⟩)).drop a (by have:=HAR.out;omega)).take p (by have:=HAR.out;omega);exact h1) (by omega) (rt_below HT.out.2 (show Below w.heap.size w W5.drew from ⟨HB5.out.os,HB5.out.tape,HB5.out.output,HB5.out.size,HB5.out.block⟩) (by have:=HAR.out;omega)) (by have:=HB5.out.size;have:=HAR.out;show 3 < W5.heap.size;omega))
   have HEP:=hid (And.intro he hep)
   clear he hep ha255 hf6 hj6 hd7 d7
   go_still_tail 11,(by kernel_rfl)
   change wpList _ _ _ _ _ W5.drew
   clear s1 s2 hsl g3
   have hx0d:W5.drew.heap[rb]?=some (.cells (dgA zDg.1) 38 (0,0)):=HX05.out
   have HX0D:=hid hx0d
   have HBD:=hid (show Below w.heap.size w W5.drew from ⟨HB5.out.os,HB5.out.tape,HB5.out.output,HB5.out.size,HB5.out.block⟩)
   clear hx0d
   go_wp2_with (first | (go_at_call 77;refine HRT.out.mono ?_;rintro e w6 ⟨rfl,hb6⟩;have hg6:=(hb6.block rb (Array.getElem?_eq_some_iff.1 HX0D.out).1).trans HX0D.out;have HG6:=hid hg6;have HTH:=hid (there_block hg6);have HGF:=hid (setCells_all hg6 E.toList (by rw [Array.length_toList,HES.out];rfl));have HB6:=hid (HBD.out.trans (hb6.mono HBD.out.size));clear hg6 hb6) | (refine wpList_store_mid rfl 38 (.tmp 4) (.tmp 55) (by rfl) rb 0 E (by rfl) (by rfl) (by rw [HES.out];exact HTH.out) (by rw [HES.out];exact info38) HE1.out ?_))
   have HB9:=hid (HB6.out.grown (setCells_grown rb E.toList 0 w6) HB6.out.size (fun k hk=>by rw [← Option.some.inj hk];have:=HRB.out;have:=HB3.out;omega))
   generalize w6.setCells rb 0 E.toList=w9 at *
   have hGF:w9.heap[rb]?=some (.cells E 38 (0,0)):=by have:=HGF.out;simpa using this
   have HGF9:=hid hGF
   refine bodyPost_ret (v:=.agg E) (results_cell_row (p:=4) (ty:=38) rfl _ _ rb 38 E (0,0) _ rfl HGF9.out Tryz.underlying38 rfl (by rw [HES.out];exact info38)) rfl ⟨rfl,HB9.out⟩
end
section
open Go.Maps Go.WideMaps Go.ChangeMaps
def logP (n:Nat):Nat:=Lib.bitLen n - 1
theorem logP_le {n:Nat} (h:0 < n) (hn:n≤1000000000000):2 ^ logP n≤n∧n < 2 ^ (logP n+1)∧0 < Lib.bitLen n:=by
 have a:=bitAux_lt 64 n (by omega)
 obtain ⟨b,c⟩:=bitAux_le 64 n (by omega) h
 unfold logP Lib.bitLen
 exact ⟨c,by rw [Nat.sub_add_cancel b];exact a,b⟩
def spL (fr len:Nat):List (Nat × Nat):=if h:len=0 then [] else (logP len,fr / 2 ^ logP len) :: spL (fr+2 ^ logP len) (len - 2 ^ logP len)
termination_by len
decreasing_by
 have:0 < 2 ^ logP len:=Nat.pow_pos (by decide)
 omega
theorem spL_zero (fr:Nat):spL fr 0=[]:=by rw [spL];rfl
theorem spL_pos (fr len:Nat) (h:0 < len):spL fr len=(logP len,fr / 2 ^ logP len) :: spL (fr+2 ^ logP len) (len - 2 ^ logP len):=by
 rw [spL,dif_neg (by omega)]
def Al (fr len:Nat):Prop:=∀ q,2 ^ q≤len→2 ^ q ∣ fr
theorem Al.zero (len:Nat):Al 0 len:=fun q _=>Nat.dvd_zero _
theorem Al.next {fr len:Nat} (h:Al fr len) (h0:0 < len) (hn:len≤1000000000000):Al (fr+2 ^ logP len) (len - 2 ^ logP len):=by
 obtain ⟨h1,h2,-⟩:=logP_le h0 hn
 intro q hq
 have h3:2 ^ q≤2 ^ logP len:=by
  rcases Nat.lt_or_ge (logP len) q with e | e
  · have:2 ^ (logP len+1)≤2 ^ q:=Nat.pow_le_pow_right (by decide) e
    rw [Nat.pow_succ] at h2 this;omega
  · exact Nat.pow_le_pow_right (by decide) e
 have h4:q≤logP len:=(Nat.pow_le_pow_iff_right (show 1 < 2 by decide)).1 h3
 exact Nat.dvd_add (h q (by omega)) (Nat.pow_dvd_pow 2 h4)
def spotD (wd:Int) (L:List Dg) (s:Nat × Nat):Dg:=rootP wd ((L.drop (s.2 * 2 ^ s.1)).take (2 ^ s.1))
theorem fold_spots (wd:Int) (L:List Dg):∀ (n len fr:Nat),len≤n→Al fr len→0 < len→fr+len≤L.length→len≤1000000→foldP wd ((spL fr len).map (spotD wd L))=rootP wd ((L.drop fr).take len):=by
 intro n
 induction n with
 | zero=>intro len fr h _ h0;omega
 | succ n ih =>
   intro len fr h hal h0 hle hn
   obtain ⟨h1,h2,-⟩:=logP_le h0 (by omega)
   have hp:0 < 2 ^ logP len:=Nat.pow_pos (by decide)
   have hd:fr / 2 ^ logP len * 2 ^ logP len=fr:=Nat.div_mul_cancel (hal _ h1)
   have hs:spotD wd L (logP len,fr / 2 ^ logP len)=rootP wd ((L.drop fr).take (2 ^ logP len)):=by
    show rootP wd ((L.drop (fr / 2 ^ logP len * 2 ^ logP len)).take (2 ^ logP len))=_
    rw [hd]
   rw [spL_pos fr len h0,List.map_cons,hs]
   by_cases he:len=2 ^ logP len
   · have hz:len - 2 ^ logP len=0:=by omega
     rw [hz,spL_zero,List.map_nil]
     show rootP wd ((L.drop fr).take (2 ^ logP len))=_
     rw [← he]
   · have h5:0 < len - 2 ^ logP len:=by omega
     have ih':=ih (len - 2 ^ logP len) (fr+2 ^ logP len) (by omega) (hal.next h0 (by omega)) h5 (by omega) (by omega)
     have hne:(spL (fr+2 ^ logP len) (len - 2 ^ logP len)).map (spotD wd L) ≠ []:=by rw [spL_pos _ _ h5];simp
     have hf:∀ (d:Dg) (r:List Dg),r ≠ []→foldP wd (d :: r)=nodeD wd d (foldP wd r):=fun d r hr=>by
      cases r with
      | nil=>exact absurd rfl hr
      | cons e r=>rfl
     rw [hf _ _ hne,ih']
     have hl:((L.drop fr).take len).length=len:=by rw [List.length_take,List.length_drop];omega
     rw [rootP_two wd ((L.drop fr).take len) (by omega) (by omega),hl,leftP_mid (q:=logP len) (by omega) (by omega) (by omega)]
     congr 1
     · rw [List.take_take,Nat.min_eq_left (by omega)]
     · rw [List.drop_take,List.drop_drop]
theorem spL_level:∀ (n len fr:Nat),len≤n→Al fr len→len≤1000000000000→∀ s ∈ spL fr len,s.2 * 2 ^ s.1+2 ^ s.1≤fr+len∧2 ^ s.1≤len:=by
 intro n
 induction n with
 | zero=>intro len fr h _ _ s hs;obtain rfl:len=0:=by omega
         rw [spL_zero] at hs;cases hs
 | succ n ih =>
   intro len fr h hal hn s hs
   by_cases h0:len=0
   · subst h0;rw [spL_zero] at hs;cases hs
   · obtain ⟨h1,h2,-⟩:=logP_le (show 0 < len by omega) hn
     have hp:0 < 2 ^ logP len:=Nat.pow_pos (by decide)
     rw [spL_pos fr len (by omega)] at hs
     rcases List.mem_cons.1 hs with rfl | hs
     · dsimp only
       rw [Nat.div_mul_cancel (hal _ h1)]
       omega
     · have:=ih (len - 2 ^ logP len) (fr+2 ^ logP len) (by omega) (hal.next (by omega) hn) (by omega) s hs
       omega
theorem spL_len:∀ (n len fr:Nat),len≤n→(spL fr len).length≤len:=by
 intro n
 induction n with
 | zero=>intro len fr h;obtain rfl:len=0:=by omega
         rw [spL_zero];exact Nat.le_refl _
 | succ n ih =>
   intro len fr h
   by_cases h0:len=0
   · subst h0;rw [spL_zero];exact Nat.le_refl _
   · have hp:0 < 2 ^ logP len:=Nat.pow_pos (by decide)
     rw [spL_pos fr len (by omega),List.length_cons]
     have:=ih (len - 2 ^ logP len) (fr+2 ^ logP len) (by omega)
     omega
end
section
open Go.Maps Go.WideMaps Go.ChangeMaps
theorem sl130:Sl Tryz.prog 130 133 (.agg #[.int .i64 0,.int .i64 0]) 2 16:=⟨Tryz.underlying130,by kernel_rfl,rfl,by decide⟩
def spE (s:Nat × Nat):List Value:=[.int .i64 (s.1:Int),.int .i64 (s.2:Int)]
theorem ctz_ge {x q:Nat} (h0:0 < x) (hx:x < 1000000000000) (hq:2 ^ q ∣ x):q≤Lib.ctz 64 x:=by
 obtain ⟨m,hm,-⟩:=Lib.ctzFrom_spec 64 x h0 (by omega)
 have e:Lib.ctz 64 x=Lib.ctzFrom 64 x:=by unfold Lib.ctz;rw [if_neg (by omega)]
 rw [e]
 generalize Lib.ctzFrom 64 x=c at *
 rcases Nat.lt_or_ge c q with h | h
 · have h2:2 ^ (c+1) ∣ x:=Nat.dvd_trans (Nat.pow_dvd_pow 2 h) hq
   rw [hm,Nat.pow_succ] at h2
   have:=Nat.dvd_of_mul_dvd_mul_left (Nat.pow_pos (show 0 < 2 by decide)) h2
   omega
 · exact h
theorem rowShape {w:World} {base:Nat} {e:TypeId} {size:Nat} {v:Value} {n:Nat} {xs:List Value} (h:w.ownsRow base e size v n xs):∃ a c,v=.slice a n c:=by
 rcases h.2 with ⟨rfl,rfl⟩ | ⟨g,cap,_,rfl,_⟩
 · exact ⟨_,_,rfl⟩
 · exact ⟨_,_,rfl⟩
theorem tab_below {w w':World} {l:List Nat} {B:Nat} (h:TabAt 1 l w) (hb:Below B w w') (h1:1 < B):TabAt 1 l w':=fun j hj=>(hb.cell h1).trans (h j hj)
set_option maxHeartbeats 8000000
theorem spots_any (w:World) (fr tq:Nat) (h:fr≤tq) (hto:tq≤1000000) (hal:Al fr (tq - fr)) (htz:TabAt 1 Lib.deBruijn64tab w) (h1:1 < w.heap.size) :
 Calls Tryz.prog 61 #[.int .i64 (fr:Int),.int .i64 (tq:Int)] w fun e w'=>∃ a n c,e=.returned (.slice a n c)∧n=(spL fr (tq - fr)).length∧w'.ownsRow w.heap.size 133 2 (.slice a n c) n ((spL fr (tq - fr)).flatMap spE)∧Below w.heap.size w w':=by
 have d1:decide ((fr:Int) < 0)=false:=by simp
 have d2:decide (1099511627776 < (tq:Int))=false:=by simp;omega
 have HH:=hid (And.intro hto (And.intro htz h1))
 have HAL:=hid hal
 have HF:=hid h
 clear h hto hal htz h1
 go_enter Tryz.func61,Tryz.ntmps61
 go_wp2_with fail
 clear d1 d2
 go_loopw [0,5] (fun v r wr=>∃ (x:Nat) (done:List (Nat × Nat)),fr≤x∧x≤tq∧v=.int .i64 (x:Int)∧Al x (tq - x)∧spL fr (tq - fr)=done++spL x (tq - x)∧wr.ownsRow w.heap.size 133 2 r done.length (done.flatMap spE)∧Below w.heap.size w wr) (fun v _ _=>tq - (intOf v).toNat)
 case atStart=>exact ⟨fr,[],Nat.le_refl _,HF.out,rfl,HAL.out,rfl,World.ownsRow_nil _ _ _ _,Below.refl _ _⟩
 case round =>
  obtain ⟨x,done,hfx,hx,rfl,hax,hsp,ho,hb⟩:=hrel
  by_cases hlt:x < tq
  · obtain ⟨len,hlen⟩:∃ len,len=tq - x:=⟨_,rfl⟩
    have hl0:0 < len:=by omega
    have hl6:len≤1000000:=by have:=HH.out.1;omega
    obtain ⟨p1,p2,p3⟩:=logP_le hl0 (by omega)
    rw [← hlen] at hax hsp
    have hnx:=hax.next hl0 (by omega)
    have hsp2:=spL_pos x len hl0
    have hdv:=hax (logP len) p1
    obtain ⟨q,hq⟩:∃ q,q=logP len:=⟨_,rfl⟩
    rw [← hq] at p1 p2 hnx hsp2 hdv
    obtain ⟨P,hP⟩:∃ P,P=2 ^ q:=⟨_,rfl⟩
    have hP0:0 < P:=by rw [hP];exact Nat.pow_pos (by decide)
    have hq20:q≤19:=by
     rcases Nat.lt_or_ge 19 q with e | e
     · have:2 ^ 20≤2 ^ q:=Nat.pow_le_pow_right (by decide) e
       omega
     · exact e
    obtain ⟨i,hi⟩:∃ i,i=x / P:=⟨_,rfl⟩
    have hx6:x≤1000000:=by have:=HH.out.1;omega
    have HC:=hid (fun wx=>Any.bits_Len Tryz.lays125 (len:Int) wx (by omega) (by omega))
    have hbl:Lib.bitLen (len:Int).toNat=q+1:=by rw [Int.toNat_natCast,hq];unfold logP;omega
    rw [hbl] at HC
    have s1:(tq:Int) - (x:Int)=(len:Int):=by omega
    have s2:IntKind.u64.wrap (len:Int)=(len:Int):=by simp [IntKind.wrap,IntKind.bits,IntKind.signed];omega
    have s3:((q+1:Nat):Int) - 1=(q:Int):=by omega
    have s4:(x:Int) / (P:Int)=(i:Int):=by rw [hi];rfl
    have s5:IntKind.u64.wrap (x:Int)=(x:Int):=by simp [IntKind.wrap,IntKind.bits,IntKind.signed];omega
    have s6:(2:Int) ^ q=(P:Int):=by rw [hP];push_cast;rfl
    obtain ⟨w1,hw1⟩:∃ w1,w1=wr.alloc (.cells #[.int .i64 (q:Int),.int .i64 (i:Int)] 133):=⟨_,rfl⟩
    have hb1:Below w.heap.size w w1:=by rw [hw1];exact hb.alloc hb.size _
    have ho1:w1.ownsRow w.heap.size 133 2 u5 done.length (done.flatMap spE):=by rw [hw1];exact ho.alloc _
    have hca:∀ (k:Nat) (u:Value),([.int .i64 (q:Int),.int .i64 (i:Int)]:List Value)[k]?=some u→w1.cell? ((⟨wr.heap.size,0,none⟩:Addr).add k)=some u:=fun k u hu=>by rw [hw1];exact cellA #[.int .i64 (q:Int),.int .i64 (i:Int)] 133 wr k u hu
    have hdl:done.length≤1000000:=by
     have h1:=spL_len _ (tq - fr) fr (Nat.le_refl _)
     rw [hsp,List.length_append] at h1
     have:=HH.out.1;omega
    have HB1:=hid hb1;have HO1:=hid ho1;have HCA:=hid hca;have HDL:=hid hdl
    have HSP:=hid (show spL fr (tq - fr)=(done++[(q,i)])++spL (x+P) (tq - (x+P)) by
     rw [hsp,hsp2,List.append_assoc,← hP,← hi,show tq - (x+P)=len - P by omega];rfl)
    have HNX:=hid (show Al (x+P) (tq - (x+P)) by rw [show tq - (x+P)=len - P by omega,hP];exact hnx)
    have HXL:=hid (show fr≤x+P∧x+P≤tq∧x < tq by omega)
    have HP0:=hid hP0
    have hw1':wr.alloc (.cells #[.int .i64 (q:Int),.int .i64 (i:Int)] 133)=w1:=hw1.symm
    have hPb:P≤1000000:=by omega
    have h9:decide ((x:Int) < (tq:Int))=true:=by simp;omega
    have h8:decide (x < tq)=true:=by simp;omega
    have hcz:0 < x→q≤Lib.ctz 64 x:=fun h0=>ctz_ge h0 (by omega) hdv
    have HB:=hid hb
    clear hfx hx hax hsp ho hb hlt hlen hl0 p1 p2 p3 hnx hsp2 hdv hq hP hP0 hi hbl hw1 hb1 ho1 hca hdl
    by_cases hx0:x=0
    · have h7:decide ((0:Int) < (x:Int))=false:=by simp;omega
      have h6:decide (0 < x)=false:=by simp;omega
      clear hx0 hcz
      go_wp2_with (first
       | (go_at_call 112;refine (HC.out wr).mono ?_;rintro e wx ⟨rfl,hw⟩;have hw:=hw.symm;subst hw)
       | (at_builtin;go_loud (refine L_appendN rfl (.tmp 29) (.tmp 35) 130 (by rfl) sl130 w.heap.size _ done.length _ (by rfl) HO1.out ⟨_,0,none⟩ 1 1 [.int .i64 (q:Int),.int .i64 (i:Int)] (by rfl) (by rfl) HCA.out (by intro u hu;simp only [List.mem_cons,List.not_mem_nil,or_false] at hu;rcases hu with rfl | rfl <;> rfl) (by have:=HDL.out;omega) (by have:=HDL.out;simp [maxLen];omega) HB1.out.size (fun a4 c4 w4 ho4 hg4 hat4=>?_))))
      have HO4:=hid ho4
      have HB4:=hid (HB1.out.grown hg4 HB1.out.size (fun k hk=>(HO1.out.lt k hk).1))
      clear ho4 hg4 hat4
      refine ⟨⟨x+P,done++[(q,i)],by have:=HXL.out;omega,HXL.out.2.1,by push_cast;rfl,HNX.out,HSP.out,?_,HB4.out⟩,?_⟩
      · have:=HO4.out
        simpa [spE] using this
      · have h1:=HXL.out;have h2:=HP0.out
        show tq - (intOf (.int .i64 ((x:Int)+(P:Int)))).toNat < tq - (intOf (.int .i64 (x:Int))).toNat
        simp only [intOf]
        omega
    · have h7:decide ((0:Int) < (x:Int))=true:=by simp;omega
      have h6:decide (0 < x)=true:=by simp;omega
      have HTZ:=hid (fun wx (hT:TabAt 1 Lib.deBruijn64tab wx)=>Any7.bits_TrailingZeros Tryz.lays7n27 x (by omega) wx fun _=>hT)
      have hmin:min (q:Int) ((Lib.ctz 64 x:Nat):Int)=(q:Int):=by have:=hcz (by omega);omega
      clear hx0 hcz
      go_wp2_with (first
       | (go_at_call 113;refine (HTZ.out _ (tab_below HH.out.2.1 HB.out HH.out.2.2)).mono ?_;rintro e wx ⟨rfl,hw⟩;have hw:=hw.symm;subst hw)
       | (go_at_call 112;refine (HC.out wr).mono ?_;rintro e wx ⟨rfl,hw⟩;have hw:=hw.symm;subst hw)
       | (at_builtin;go_loud (refine L_appendN rfl (.tmp 29) (.tmp 35) 130 (by rfl) sl130 w.heap.size _ done.length _ (by rfl) HO1.out ⟨_,0,none⟩ 1 1 [.int .i64 (q:Int),.int .i64 (i:Int)] (by rfl) (by rfl) HCA.out (by intro u hu;simp only [List.mem_cons,List.not_mem_nil,or_false] at hu;rcases hu with rfl | rfl <;> rfl) (by have:=HDL.out;omega) (by have:=HDL.out;simp [maxLen];omega) HB1.out.size (fun a4 c4 w4 ho4 hg4 hat4=>?_))))
      have HO4:=hid ho4
      have HB4:=hid (HB1.out.grown hg4 HB1.out.size (fun k hk=>(HO1.out.lt k hk).1))
      clear ho4 hg4 hat4
      refine ⟨⟨x+P,done++[(q,i)],by have:=HXL.out;omega,HXL.out.2.1,by push_cast;rfl,HNX.out,HSP.out,?_,HB4.out⟩,?_⟩
      · have:=HO4.out
        simpa [spE] using this
      · have h1:=HXL.out;have h2:=HP0.out
        show tq - (intOf (.int .i64 ((x:Int)+(P:Int)))).toNat < tq - (intOf (.int .i64 (x:Int))).toNat
        simp only [intOf]
        omega
  · have h9:decide ((x:Int) < (tq:Int))=false:=by simp;omega
    have h8:decide (x < tq)=false:=by simp;omega
    have hxe:x=tq:=by omega
    clear hlt
    go_wp2_with fail
    go_ret
    subst hxe
    rw [Nat.sub_self,spL_zero,List.append_nil] at hsp
    rw [hsp]
    obtain ⟨a,c,rfl⟩:=rowShape ho
    exact ⟨a,_,c,rfl,rfl,ho,hb⟩
end
end Go.Proofs.YtgkehahklccacaaGreatDoor
