import Derived.Test.YtgkehahklccacaaGreatDoorZ03
import Derived.Test.YtgkehahklccacaaGreatDoorZ01
import Derived.BigRegion
import Derived.BigQuiet
import Derived.StillTailTactics
import Derived.Deep.RegionHeld3
import Derived.IntWalk
import Derived.Deep.QuietTactic
namespace Go.Proofs.YtgkehahklccacaaGreatDoor
open Go Go.RowKit
open Go.Lib (hid)
set_option maxRecDepth 100000
set_option maxHeartbeats 1000000
set_option linter.unusedVariables false
set_option linter.unusedSimpArgs false
section
def absN:Nat→S8→List UInt8→S8
 | 0,s,_=>s
 | n+1,s,l=>absN n (blockS (l.take 64) s) (l.drop 64)
def absorb (s:S8) (l:List UInt8):S8:=absN (l.length / 64) s l
theorem absN_pre:∀ (n:Nat) (s:S8) (a b:List UInt8),64 * n≤a.length→absN n s (a++b)=absN n s a
 | 0,_,_,_,_=>rfl
 | n+1,s,a,b,h=>by
   show absN n (blockS ((a++b).take 64) s) ((a++b).drop 64)=absN n (blockS (a.take 64) s) (a.drop 64)
   rw [List.take_append_of_le_length (by omega),List.drop_append_of_le_length (by omega)]
   exact absN_pre n _ _ _ (by rw [List.length_drop];omega)
theorem absN_add:∀ (n m:Nat) (s:S8) (a:List UInt8),absN (n+m) s a=absN m (absN n s a) (a.drop (64 * n))
 | 0,m,s,a=>by rw [Nat.zero_add,Nat.mul_zero,List.drop_zero];rfl
 | n+1,m,s,a=>by
   rw [show n+1+m=(n+m)+1 by omega]
   show absN (n+m) (blockS (a.take 64) s) (a.drop 64)=_
   rw [absN_add n m,List.drop_drop,show 64+64 * n=64 * (n+1) by omega];rfl
theorem absorb_append (s:S8) (a b:List UInt8) (h:a.length % 64=0):absorb s (a++b)=absorb (absorb s a) b:=by
 unfold absorb
 have e:(a++b).length / 64=a.length / 64+b.length / 64:=by rw [List.length_append];omega
 rw [e,absN_add,absN_pre _ _ _ _ (by omega),List.drop_append_of_le_length (by omega),List.drop_of_length_le (by omega),List.nil_append]
theorem absorb_block (s:S8) (a:List UInt8) (h:a.length=64):absorb s a=blockS a s:=by
 unfold absorb
 rw [h]
 show blockS (a.take 64) s=_
 rw [List.take_of_length_le (by omega)]
def whole (m:List UInt8):List UInt8:=m.take (m.length / 64 * 64)
def rest (m:List UInt8):List UInt8:=m.drop (m.length / 64 * 64)
theorem whole_rest (m:List UInt8):whole m++rest m=m:=List.take_append_drop _ _
theorem whole_len (m:List UInt8):(whole m).length=m.length / 64 * 64:=by unfold whole;rw [List.length_take];omega
theorem rest_len (m:List UInt8):(rest m).length=m.length % 64:=by unfold rest;rw [List.length_drop];omega
def st0:S8:=⟨0x6a09e667,0xbb67ae85,0x3c6ef372,0xa54ff53a,0x510e527f,0x9b05688c,0x1f83d9ab,0x5be0cd19⟩
def stOf (m:List UInt8):S8:=absorb st0 (whole m)
theorem more_short (m p:List UInt8) (h:m.length % 64+p.length < 64):stOf (m++p)=stOf m∧rest (m++p)=rest m++p:=by
 have e:(m++p).length / 64 * 64=m.length / 64 * 64:=by rw [List.length_append];omega
 unfold stOf whole rest
 rw [e]
 exact ⟨by rw [List.take_append_of_le_length (by omega)],by rw [List.drop_append_of_le_length (by omega)]⟩
theorem more_fill (m p:List UInt8) (h:m.length % 64+p.length=64):stOf (m++p)=blockS (rest m++p) (stOf m)∧rest (m++p)=[]:=by
 have hl:(m++p).length % 64=0:=by rw [List.length_append];omega
 have e:whole (m++p)=m++p:=by unfold whole;exact List.take_of_length_le (by omega)
 refine ⟨?_,by unfold rest;exact List.drop_of_length_le (by omega)⟩
 unfold stOf
 rw [e]
 conv=>lhs;rw [← whole_rest m,List.append_assoc]
 rw [absorb_append _ _ _ (by rw [whole_len];omega),absorb_block _ _ (by rw [List.length_append,rest_len];omega)]
theorem more_block (m p:List UInt8) (h0:m.length % 64=0) (h:p.length=64):stOf (m++p)=blockS p (stOf m)∧rest (m++p)=[]:=by
 have hl:(m++p).length % 64=0:=by rw [List.length_append];omega
 have e:whole (m++p)=m++p:=by unfold whole;exact List.take_of_length_le (by omega)
 have e2:whole m=m:=by unfold whole;exact List.take_of_length_le (by omega)
 refine ⟨?_,by unfold rest;exact List.drop_of_length_le (by omega)⟩
 unfold stOf
 rw [e,e2,absorb_append _ _ _ h0,absorb_block _ _ h]
def gapK (n:Nat):Nat:=1+(119 - n % 64) % 64
theorem gapK_is (n:Nat):(n % 64+gapK n) % 64=56:=by unfold gapK;omega
theorem gapK_least (n k:Nat) (h1:1≤k) (h2:k < gapK n):(n % 64+k) % 64 ≠ 56:=by unfold gapK at h2;omega
theorem gapK_le (n:Nat):1≤gapK n∧gapK n≤64:=by unfold gapK;omega
def padL (n:Nat):List UInt8:=128 :: List.replicate (gapK n - 1) 0++be 8 (8 * n)
theorem padL_len (n:Nat):(padL n).length=gapK n+8:=by
 have:=gapK_le n
 simp [padL,be_len];omega
def S8.bytes (s:S8):List UInt8:=s.list.flatMap fun x=>be 4 x.toNat
theorem S8.bytes_len (s:S8):s.bytes.length=32:=by simp [S8.bytes,S8.list,be_len]
def shaP (m:List UInt8):List UInt8:=(stOf (m++padL m.length)).bytes
theorem shaP_len (m:List UInt8):(shaP m).length=32:=S8.bytes_len _
def cutP' (w:Int) (d:List UInt8):List UInt8:=d.take (max w 1).toNat++List.replicate (d.length - (max w 1).toNat) 0
theorem cutP'_len (w:Int) (d:List UInt8):(cutP' w d).length=d.length:=by
 unfold cutP'
 rw [List.length_append,List.length_take,List.length_replicate];omega
def ofP (w:Int) (t:List UInt8):List UInt8:=cutP' w (shaP t)
theorem ofP_len (w:Int) (t:List UInt8):(ofP w t).length=32:=by unfold ofP;rw [cutP'_len,shaP_len]
def nodeP (w:Int) (l r:List UInt8):List UInt8:=ofP w (1 :: l++r)
end
section
def dropSeq:Nat→Code→Code
 | 0,c=>c
 | n+1,.seq _ c=>dropSeq n c
 | _,c=>c
def headSeq:Code→Code
 | .seq c _=>c
 | c=>c
theorem drewN_add (w:World):∀ n m:Nat,(w.drewN n).drewN m=w.drewN (n+m):=by
 intro n m
 induction m with
 | zero=>rfl
 | succ m ih=>first | (show ((w.drewN n).drewN m).drew=_;rw [ih];rfl) | (simp [World.drewN,ih];done)
theorem turn_q (w:World) (k:Nat) (x:UInt32) (n:Int) (hn:n ∈ [(2:Int),6,7,11,13,17,18,19,22,25]):Calls Tryz.prog 253 #[.int .u32 (x.toNat:Int),.int .i64 n] (w.drewN k) fun e w'=>e=.returned (.int .u32 ((rot n x).toNat:Int))∧∃ m,w'=w.drewN m :=
 (turn_any (w.drewN k) x n hn).mono fun _ _ ⟨he,j,hj⟩=>⟨he,k+j,by rw [hj,drewN_add]⟩
theorem keepq {w:World} {b o o':Nat} {v u:Value} {cs:Array Value} {ty:TypeId} (hh:w.heap[b]?=some (.cells cs ty (0,0))) (h:cs[o]?=some v) (hne:o' ≠ o):(w.setCell ⟨b,o',none⟩ u).cell? ⟨b,o,none⟩=some v:=by
 rw [cell_of_row _ b o _ _ _ (heap_setCell_same w b o' _ _ u hh),Array.getElem?_setIfInBounds_ne hne]
 exact h
noncomputable def tkB:Code:=headSeq (dropSeq 2 (Tryz.f228.body.getD .skip))
set_option maxHeartbeats 4000000
theorem take_b (w0 W:World) (bw:Nat) (l:List UInt8) (hW:W.heap[bw]?=some (.cells (wArr l 16) 353 (0,0))) (hb:Below bw w0 W) (v0 v1 u2 u3 u5 u6 u7 u8 u9 u10 u11 u12 u13 u14 u15 u16 u17 u18 u19 u20 u21 u22 u23 u24 u25 u26 u27 u28 u29 u30 u31 u32 u33 u34 u35 u36 u37 u38 u39 u40 u41 u42 u43 u44 u45 u46 u47 u48 u49 u50 u51 u52 u53 u54 u55 u56 u57 u58 u59 u60 u61 u62 u63 u64 u65 u66 u67 u68 u69 u70 u71 u72 u73 u74 u75 u76 u77 u78 u79 u80 u81 u82 u83 u84 u85 u86 u87 u88 u89 u90 u91 u92 u93 u94 u95 u96 u97 u98 u99 u100 u101 u102 u103 u104 u105 u106 u107 u108 u109 u110 u111 u112 u113 u114 u115 u116 u117 u118 u119 u120 u121 u122 u123 u124 u125 u126 u127 u128 u129 u130 u131 u132 u133 u134 u135 u136 u137 u138 u139 u140 u141 u142 u143 u144 u145 u146 u147 u148 u149 u150 u151 u152 u153 u154 u155 u156 u157 u158 u159 u160 u161 u162 u163 u164 u165 u166 u167 u168 u169 u170 u171 u172 u173 u174 u175 u176 u177 u178 u179 u180 u181 u182 u183 u184 u185 u186 u187 u188 u189 u190 u191 u192 u193 u194 u195 u196 u197 u198 u199 u200 u201 u202 u203 u204 u205 u206 u207 u208 u209 u210 u211 u212 u213 u214 u215 u216 u217 u218 u219:Value) (K:Act→World→Prop) (PST:Ending→World→Prop)
 (hK:∀ (u2 u3 u5 u6 u7 u8 u9 u10 u11 u12 u13 u14 u15 u16 u17 u18 u19 u20 u21 u22 u23 u24 u25 u26 u27 u28 u29 u30 u31 u32 u33 u34 u35 u36 u37 u38 u39 u40 u41 u42 u43 u44 u45 u46 u47 u48 u49 u50 u51 u52 u53 u54 u55 u56 u57 u58 u59 u60 u61 u62 u63 u64 u65 u66 u67 u68 u69 u70 u71 u72 u73 u74 u75 u76 u77 u78 u79 u80 u81 u82 u83 u84 u85 u86 u87 u88 u89 u90 u91 u92 u93 u94 u95 u96 u97 u98 u99 u100 u101 u102 u103 u104 u105 u106 u107 u108 u109 u110 u111 u112 u113 u114 u115 u116 u117 u118 u119 u120 u121 u122 u123 u124 u125 u126 u127 u128 u129 u130 u131 u132 u133 u134 u135 u136 u137 u138 u139 u140 u141 u142 u143 u144 u145 u146 u147 u148 u149 u150 u151 u152 u153 u154 u155 u156 u157 u158 u159 u160 u161 u162 u163 u164 u165 u166 u167 u168 u169 u170 u171 u172 u173 u174 u175 u176 u177 u178 u179 u180 u181 u182 u183 u184 u185 u186 u187 u188 u189 u190 u191 u192 u193 u194 u195 u196 u197 u198 u199 u200 u201 u202 u203 u204 u205 u206 u207 u208 u209 u210 u211 u212 u213 u214 u215 u216 u217 u218 u219:Value) (w':World),w'.heap[bw]?=some (.cells (wArr l 64) 353 (0,0))→Below bw w0 w'→K ⟨#[v0,v1,u2,u3,.pointer (some ⟨bw,0,none⟩),u5,u6,u7,u8,u9,u10,u11,u12,u13,u14,u15,u16,u17,u18,u19,u20,u21,u22,u23,u24,u25,u26,u27,u28,u29,u30,u31,u32,u33,u34,u35,u36,u37,u38,u39,u40,u41,u42,u43,u44,u45,u46,u47,u48,u49,u50,u51,u52,u53,u54,u55,u56,u57,u58,u59,u60,u61,u62,u63,u64,u65,u66,u67,u68,u69,u70,u71,u72,u73,u74,u75,u76,u77,u78,u79,u80,u81,u82,u83,u84,u85,u86,u87,u88,u89,u90,u91,u92,u93,u94,u95,u96,u97,u98,u99,u100,u101,u102,u103,u104,u105,u106,u107,u108,u109,u110,u111,u112,u113,u114,u115,u116,u117,u118,u119,u120,u121,u122,u123,u124,u125,u126,u127,u128,u129,u130,u131,u132,u133,u134,u135,u136,u137,u138,u139,u140,u141,u142,u143,u144,u145,u146,u147,u148,u149,u150,u151,u152,u153,u154,u155,u156,u157,u158,u159,u160,u161,u162,u163,u164,u165,u166,u167,u168,u169,u170,u171,u172,u173,u174,u175,u176,u177,u178,u179,u180,u181,u182,u183,u184,u185,u186,u187,u188,u189,u190,u191,u192,u193,u194,u195,u196,u197,u198,u199,u200,u201,u202,u203,u204,u205,u206,u207,u208,u209,u210,u211,u212,u213,u214,u215,u216,u217,u218,u219],[]⟩ w') :
 Code.wp Tryz.prog tkB (Exit.then K (bodyPost Tryz.prog Tryz.f228 PST)) ⟨#[v0,v1,u2,u3,.pointer (some ⟨bw,0,none⟩),u5,u6,u7,u8,u9,u10,u11,u12,u13,u14,u15,u16,u17,u18,u19,u20,u21,u22,u23,u24,u25,u26,u27,u28,u29,u30,u31,u32,u33,u34,u35,u36,u37,u38,u39,u40,u41,u42,u43,u44,u45,u46,u47,u48,u49,u50,u51,u52,u53,u54,u55,u56,u57,u58,u59,u60,u61,u62,u63,u64,u65,u66,u67,u68,u69,u70,u71,u72,u73,u74,u75,u76,u77,u78,u79,u80,u81,u82,u83,u84,u85,u86,u87,u88,u89,u90,u91,u92,u93,u94,u95,u96,u97,u98,u99,u100,u101,u102,u103,u104,u105,u106,u107,u108,u109,u110,u111,u112,u113,u114,u115,u116,u117,u118,u119,u120,u121,u122,u123,u124,u125,u126,u127,u128,u129,u130,u131,u132,u133,u134,u135,u136,u137,u138,u139,u140,u141,u142,u143,u144,u145,u146,u147,u148,u149,u150,u151,u152,u153,u154,u155,u156,u157,u158,u159,u160,u161,u162,u163,u164,u165,u166,u167,u168,u169,u170,u171,u172,u173,u174,u175,u176,u177,u178,u179,u180,u181,u182,u183,u184,u185,u186,u187,u188,u189,u190,u191,u192,u193,u194,u195,u196,u197,u198,u199,u200,u201,u202,u203,u204,u205,u206,u207,u208,u209,u210,u211,u212,u213,u214,u215,u216,u217,u218,u219],[]⟩ W:=by
 have HK:=hid hK
 clear hK
 conv=>arg 2;whnf
 go_wp2_with fail
 go_loopw [6,7,8] (fun i _ _ wr=>∃ t:Nat,16≤t∧t≤64∧i=.int .i64 t∧wr.heap[bw]?=some (.cells (wArr l t) 353 (0,0))∧Below bw w0 wr) (fun i _ _ _=>64 - (intOf i).toNat)
 case atStart=>exact ⟨16,by omega,by omega,rfl,hW,hb⟩
 case round =>
  obtain ⟨t,ht0,htt,rfl,hw,hb⟩:=hrel
  have HB:=hid hb
  by_cases hlt:t < 64
  · have hcx:∀ j,j < t→wr.cell? ⟨bw,j,none⟩=some (.int .u32 ((wT l j).toNat:Int)):=fun j hj=>by
     have:=cell_of_row wr bw j _ _ _ hw
     rw [this,wArr_get l t j (by omega),if_pos hj];rfl
    obtain ⟨q0,hq0⟩:∃ q:Nat,q=t - 16:=⟨_,rfl⟩
    obtain ⟨q1,hq1⟩:∃ q:Nat,q=t - 15:=⟨_,rfl⟩
    obtain ⟨q2,hq2⟩:∃ q:Nat,q=t - 7:=⟨_,rfl⟩
    obtain ⟨q3,hq3⟩:∃ q:Nat,q=t - 2:=⟨_,rfl⟩
    have hl1:=hcx q0 (by omega)
    have hl2:=hcx q1 (by omega)
    have hl3:=hcx q2 (by omega)
    have hl4:=hcx q3 (by omega)
    have hH:=wT_high l t ht0 hlt
    rw [← hq0,← hq1,← hq2,← hq3] at hH
    have hcc:wr.cell? ⟨bw,t,none⟩=some (.int .u32 0):=by
     have:=cell_of_row wr bw t _ _ _ hw
     rw [this,wArr_get l _ _ (by omega),if_neg (by omega)];rfl
    have hff:wr.frozen? ⟨bw,t,none⟩=false:=frozen_of_row wr bw t _ _ hw
    have HWA:=hid hw
    obtain ⟨W0,hE0⟩:∃ x,x=wT l q0:=⟨_,rfl⟩
    rw [← hE0] at hl1 hH
    have E0:=hid hE0.symm;clear hE0
    obtain ⟨W1,hE1⟩:∃ x,x=wT l q1:=⟨_,rfl⟩
    rw [← hE1] at hl2 hH
    have E1:=hid hE1.symm;clear hE1
    obtain ⟨W2,hE2⟩:∃ x,x=wT l q2:=⟨_,rfl⟩
    rw [← hE2] at hl3 hH
    have E2:=hid hE2.symm;clear hE2
    obtain ⟨W3,hE3⟩:∃ x,x=wT l q3:=⟨_,rfl⟩
    rw [← hE3] at hl4 hH
    have E3:=hid hE3.symm;clear hE3
    have HH:=hid hH
    have HX0:=hid (show q0 < 64∧q0 < t by omega)
    have HX2:=hid (show q2 < 64∧q2 < t by omega)
    have s1:(W1.toNat:Int) / 8=((shr 3 W1).toNat:Int):=(shr_u32 3 W1).symm
    have s2:(W3.toNat:Int) / 1024=((shr 10 W3).toNat:Int):=(shr_u32 10 W3).symm
    have n1:(t:Int) - 16=(q0:Int):=by omega
    have n2:(t:Int) - 15=(q1:Int):=by omega
    have n3:(t:Int) - 7=(q2:Int):=by omega
    have n4:(t:Int) - 2=(q3:Int):=by omega
    have b0:q0 < 64:=by omega
    have b1:q1 < 64:=by omega
    have b2:q2 < 64:=by omega
    have b3:q3 < 64:=by omega
    clear hq0 hq1 hq2 hq3
    clear hw hb hH hcx hW
    have h9:decide ((t:Int) < 64)=true:=by simp;omega
    have N1:=hid n1;have N2:=hid n2;have N3:=hid n3;have N4:=hid n4
    have B0:=hid b0;have B1:=hid b1;have B2:=hid b2;have B3:=hid b3
    have HT:=hid hlt;have HT0:=hid ht0
    clear hlt htt ht0 n1 n2 n3 n4 b0 b1 b2 b3
    go_upto_region 9 with (fail)
    clear h9
    have n2:=N2.out;have n4:=N4.out;have b1:=B1.out;have b3:=B3.out
    go_quiet (fail)
    trace "quiet"
    clear n2 n4 b1 b3
    go_upto_region 10 with (fail)
    have l1:(wr.drewN nq).cell? ⟨bw,q0,none⟩=_:=hl1
    have l2:(wr.drewN nq).cell? ⟨bw,q2,none⟩=_:=hl3
    have lc:(wr.drewN nq).cell? ⟨bw,t,none⟩=_:=hcc
    have lf:(wr.drewN nq).frozen? ⟨bw,t,none⟩=_:=hff
    have HB3:=hid (show Below bw w0 (wr.drewN nq) from below_drewN HB.out nq)
    have HWA3:=hid (show (wr.drewN nq).heap[bw]?=_ from HWA.out)
    clear hl1 hl2 hl3 hl4 hcc hff HB HWA
    generalize wr.drewN nq=w2 at *
    have n1:=N1.out;have n3:=N3.out;have b0:=B0.out;have b2:=B2.out;have hlt:=HT.out
    have i1:IntKind.i64.wrap ((t:Int) - 16)=(q0:Int):=by rw [n1];exact IntWalk.i64_in _ (by omega)
    have i3:IntKind.i64.wrap ((t:Int) - 7)=(q2:Int):=by rw [n3];exact IntWalk.i64_in _ (by omega)
    have d0:((q0:Nat):Int) < 64:=by omega
    have d2:((q2:Nat):Int) < 64:=by omega
    have dt:((t:Nat):Int) < 64:=by omega
    clear n1 n3 b0 b2 hlt
    refine wp_region_held_drew (S:=fun w=>w.cell? ⟨bw,q0,none⟩=some (.int .u32 (W0.toNat:Int))∧w.cell? ⟨bw,q2,none⟩=some (.int .u32 (W2.toNat:Int))) (by kernel_rfl) ⟨l1,l2⟩ (fun hHeld=>?_)
    apply wpT 0
    apply wpT 1
    apply wpT 2
    apply wpT 3
    apply wpT 4
    apply wpT 5
    apply wpT 7
    apply wpT 10
    apply wpT 11
    apply wpT 14
    apply wpT 15
    apply wpT 16
    apply wpT 17
    apply wpT 19
    apply wpT 21
    apply wpT 24
    apply wpT 25
    apply wpR 6
    intro K hK
    go_simp
    with_reducible refine (turn_any _ _ _ (by decide)).mono ?_
    rintro e w9 ⟨rfl,nn,rfl⟩
    refine hK.out _ _ ⟨l1,l2⟩ (fun hHeld=>?_)
    clear hK K
    (try simp only [Act.put,List.setIfInBounds_toArray,List.set_cons_zero,List.set_cons_succ,List.getElem_toArray,List.getElem_cons_succ,List.getElem_cons_zero])
    trace "c6"
    apply wpR 8
    intro K hK
    go_simp
    with_reducible refine (turn_any _ _ _ (by decide)).mono ?_
    rintro e w9 ⟨rfl,nn,rfl⟩
    refine hK.out _ _ ⟨l1,l2⟩ (fun hHeld=>?_)
    clear hK K
    (try simp only [Act.put,List.setIfInBounds_toArray,List.set_cons_zero,List.set_cons_succ,List.getElem_toArray,List.getElem_cons_succ,List.getElem_cons_zero])
    apply wpT 9
    apply wpT 12
    apply wpT 13
    apply wpT 18
    apply wpR 20
    intro K hK
    go_simp
    with_reducible refine (turn_any _ _ _ (by decide)).mono ?_
    rintro e w9 ⟨rfl,nn,rfl⟩
    refine hK.out _ _ ⟨l1,l2⟩ (fun hHeld=>?_)
    clear hK K
    (try simp only [Act.put,List.setIfInBounds_toArray,List.set_cons_zero,List.set_cons_succ,List.getElem_toArray,List.getElem_cons_succ,List.getElem_cons_zero])
    apply wpR 22
    intro K hK
    go_simp
    with_reducible refine (turn_any _ _ _ (by decide)).mono ?_
    rintro e w9 ⟨rfl,nn,rfl⟩
    refine hK.out _ _ ⟨l1,l2⟩ (fun hHeld=>?_)
    clear hK K
    (try simp only [Act.put,List.setIfInBounds_toArray,List.set_cons_zero,List.set_cons_succ,List.getElem_toArray,List.getElem_cons_succ,List.getElem_cons_zero])
    apply wpT 23
    apply wpT 26
    apply wpT 27
    apply wpT 28
    apply wpR 29
    intro K hK
    go_simp
    refine hK.out _ _ ⟨keepq HWA3.out (by rw [wArr_get l t q0 HX0.out.1,if_pos HX0.out.2,E0.out];rfl) (Nat.ne_of_gt HX0.out.2),keepq HWA3.out (by rw [wArr_get l t q2 HX2.out.1,if_pos HX2.out.2,E2.out];rfl) (Nat.ne_of_gt HX2.out.2)⟩ (fun hHeld=>?_)
    clear hK K
    (try simp only [Act.put,List.setIfInBounds_toArray,List.set_cons_zero,List.set_cons_succ,List.getElem_toArray,List.getElem_cons_succ,List.getElem_cons_zero])
    refine wpAnyH_done (by kernel_rfl) ?_ _
    have hs:=heap_setCell_same (w2.drew) bw t _ _ (wv (wT l t)) HWA3.out
    rw [wArr_set l t HT.out,← HH.out] at hs
    have HS:=hid hs
    have hlt:=HT.out
    clear hs s1 s2 l1 l2 lc lf i1 i3 d0 d2 dt
    go_wp2_with fail
    go_roundw
    case rel=>exact ⟨t+1,by have:=HT0.out;omega,by have:=HT.out;omega,by go_num,(by simp only [add_u32];exact HS.out),(below_drewN HB3.out _).setCell (Nat.le_refl _) _⟩
    case measure=>have:=HT.out;simp [intOf];omega
  · obtain rfl:t=64:=by omega
    have h9:decide (((64:Nat):Int) < 64)=false:=by decide
    clear hlt htt ht0 HB
    go_wp2_with fail
    refine HK.out _ _ _ _ _ _ _ _ _ _ _ _ _ _ _ _ _ _ _ _ _ _ _ _ _ _ _ _ _ _ _ _ _ _ _ _ _ _ _ _ _ _ _ _ _ _ _ _ _ _ _ _ _ _ _ _ _ _ _ _ _ _ _ _ _ _ _ _ _ _ _ _ _ _ _ _ _ _ _ _ _ _ _ _ _ _ _ _ _ _ _ _ _ _ _ _ _ _ _ _ _ _ _ _ _ _ _ _ _ _ _ _ _ _ _ _ _ _ _ _ _ _ _ _ _ _ _ _ _ _ _ _ _ _ _ _ _ _ _ _ _ _ _ _ _ _ _ _ _ _ _ _ _ _ _ _ _ _ _ _ _ _ _ _ _ _ _ _ _ _ _ _ _ _ _ _ _ _ _ _ _ _ _ _ _ _ _ _ _ _ _ _ _ _ _ _ _ _ _ _ _ _ _ _ _ _ _ _ _ _ _ _ _ _ _ _ _  _ hw hb
end
section
noncomputable def tkA:Code:=headSeq (dropSeq 1 (Tryz.f228.body.getD .skip))
theorem u8_at (l:List UInt8) (i:Nat) (c:UInt8) (h:l[i]?=some c):l.getD i 0=c:=by rw [List.getD_eq_getElem?_getD,h];rfl
set_option maxHeartbeats 4000000
theorem take_a (w0 W:World) (bw b off c:Nat) (l:List UInt8) (hc:64≤c) (hat:∀ i,i < 64→∃ x,l[i]?=some x∧w0.cell? ⟨b,off+i,none⟩=some (.int .u8 (x.toNat:Int))) (hbb:b < bw) (hW:W.heap[bw]?=some (.cells (wArr l 0) 353 (0,0))) (hb:Below bw w0 W) (v0 u2 u3 u5 u6 u7 u8 u9 u10 u11 u12 u13 u14 u15 u16 u17 u18 u19 u20 u21 u22 u23 u24 u25 u26 u27 u28 u29 u30 u31 u32 u33 u34 u35 u36 u37 u38 u39 u40 u41 u42 u43 u44 u45 u46 u47 u48 u49 u50 u51 u52 u53 u54 u55 u56 u57 u58 u59 u60 u61 u62 u63 u64 u65 u66 u67 u68 u69 u70 u71 u72 u73 u74 u75 u76 u77 u78 u79 u80 u81 u82 u83 u84 u85 u86 u87 u88 u89 u90 u91 u92 u93 u94 u95 u96 u97 u98 u99 u100 u101 u102 u103 u104 u105 u106 u107 u108 u109 u110 u111 u112 u113 u114 u115 u116 u117 u118 u119 u120 u121 u122 u123 u124 u125 u126 u127 u128 u129 u130 u131 u132 u133 u134 u135 u136 u137 u138 u139 u140 u141 u142 u143 u144 u145 u146 u147 u148 u149 u150 u151 u152 u153 u154 u155 u156 u157 u158 u159 u160 u161 u162 u163 u164 u165 u166 u167 u168 u169 u170 u171 u172 u173 u174 u175 u176 u177 u178 u179 u180 u181 u182 u183 u184 u185 u186 u187 u188 u189 u190 u191 u192 u193 u194 u195 u196 u197 u198 u199 u200 u201 u202 u203 u204 u205 u206 u207 u208 u209 u210 u211 u212 u213 u214 u215 u216 u217 u218 u219:Value) (K:Act→World→Prop) (PST:Ending→World→Prop)
 (hK:∀ (u2 u3 u5 u6 u7 u8 u9 u10 u11 u12 u13 u14 u15 u16 u17 u18 u19 u20 u21 u22 u23 u24 u25 u26 u27 u28 u29 u30 u31 u32 u33 u34 u35 u36 u37 u38 u39 u40 u41 u42 u43 u44 u45 u46 u47 u48 u49 u50 u51 u52 u53 u54 u55 u56 u57 u58 u59 u60 u61 u62 u63 u64 u65 u66 u67 u68 u69 u70 u71 u72 u73 u74 u75 u76 u77 u78 u79 u80 u81 u82 u83 u84 u85 u86 u87 u88 u89 u90 u91 u92 u93 u94 u95 u96 u97 u98 u99 u100 u101 u102 u103 u104 u105 u106 u107 u108 u109 u110 u111 u112 u113 u114 u115 u116 u117 u118 u119 u120 u121 u122 u123 u124 u125 u126 u127 u128 u129 u130 u131 u132 u133 u134 u135 u136 u137 u138 u139 u140 u141 u142 u143 u144 u145 u146 u147 u148 u149 u150 u151 u152 u153 u154 u155 u156 u157 u158 u159 u160 u161 u162 u163 u164 u165 u166 u167 u168 u169 u170 u171 u172 u173 u174 u175 u176 u177 u178 u179 u180 u181 u182 u183 u184 u185 u186 u187 u188 u189 u190 u191 u192 u193 u194 u195 u196 u197 u198 u199 u200 u201 u202 u203 u204 u205 u206 u207 u208 u209 u210 u211 u212 u213 u214 u215 u216 u217 u218 u219:Value) (w':World),w'.heap[bw]?=some (.cells (wArr l 16) 353 (0,0))→Below bw w0 w'→K ⟨#[v0,.slice (some ⟨b,off,none⟩) 64 c,u2,u3,.pointer (some ⟨bw,0,none⟩),u5,u6,u7,u8,u9,u10,u11,u12,u13,u14,u15,u16,u17,u18,u19,u20,u21,u22,u23,u24,u25,u26,u27,u28,u29,u30,u31,u32,u33,u34,u35,u36,u37,u38,u39,u40,u41,u42,u43,u44,u45,u46,u47,u48,u49,u50,u51,u52,u53,u54,u55,u56,u57,u58,u59,u60,u61,u62,u63,u64,u65,u66,u67,u68,u69,u70,u71,u72,u73,u74,u75,u76,u77,u78,u79,u80,u81,u82,u83,u84,u85,u86,u87,u88,u89,u90,u91,u92,u93,u94,u95,u96,u97,u98,u99,u100,u101,u102,u103,u104,u105,u106,u107,u108,u109,u110,u111,u112,u113,u114,u115,u116,u117,u118,u119,u120,u121,u122,u123,u124,u125,u126,u127,u128,u129,u130,u131,u132,u133,u134,u135,u136,u137,u138,u139,u140,u141,u142,u143,u144,u145,u146,u147,u148,u149,u150,u151,u152,u153,u154,u155,u156,u157,u158,u159,u160,u161,u162,u163,u164,u165,u166,u167,u168,u169,u170,u171,u172,u173,u174,u175,u176,u177,u178,u179,u180,u181,u182,u183,u184,u185,u186,u187,u188,u189,u190,u191,u192,u193,u194,u195,u196,u197,u198,u199,u200,u201,u202,u203,u204,u205,u206,u207,u208,u209,u210,u211,u212,u213,u214,u215,u216,u217,u218,u219],[]⟩ w') :
 Code.wp Tryz.prog tkA (Exit.then K (bodyPost Tryz.prog Tryz.f228 PST)) ⟨#[v0,.slice (some ⟨b,off,none⟩) 64 c,u2,u3,.pointer (some ⟨bw,0,none⟩),u5,u6,u7,u8,u9,u10,u11,u12,u13,u14,u15,u16,u17,u18,u19,u20,u21,u22,u23,u24,u25,u26,u27,u28,u29,u30,u31,u32,u33,u34,u35,u36,u37,u38,u39,u40,u41,u42,u43,u44,u45,u46,u47,u48,u49,u50,u51,u52,u53,u54,u55,u56,u57,u58,u59,u60,u61,u62,u63,u64,u65,u66,u67,u68,u69,u70,u71,u72,u73,u74,u75,u76,u77,u78,u79,u80,u81,u82,u83,u84,u85,u86,u87,u88,u89,u90,u91,u92,u93,u94,u95,u96,u97,u98,u99,u100,u101,u102,u103,u104,u105,u106,u107,u108,u109,u110,u111,u112,u113,u114,u115,u116,u117,u118,u119,u120,u121,u122,u123,u124,u125,u126,u127,u128,u129,u130,u131,u132,u133,u134,u135,u136,u137,u138,u139,u140,u141,u142,u143,u144,u145,u146,u147,u148,u149,u150,u151,u152,u153,u154,u155,u156,u157,u158,u159,u160,u161,u162,u163,u164,u165,u166,u167,u168,u169,u170,u171,u172,u173,u174,u175,u176,u177,u178,u179,u180,u181,u182,u183,u184,u185,u186,u187,u188,u189,u190,u191,u192,u193,u194,u195,u196,u197,u198,u199,u200,u201,u202,u203,u204,u205,u206,u207,u208,u209,u210,u211,u212,u213,u214,u215,u216,u217,u218,u219],[]⟩ W:=by
 have HK:=hid hK
 have HAT:=hid hat
 have HBB:=hid hbb
 clear hK hat hbb
 conv=>arg 2;whnf
 go_wp2_with fail
 go_loopw [22,5] (fun i _ wr=>∃ t:Nat,t≤16∧i=.int .i64 t∧wr.heap[bw]?=some (.cells (wArr l t) 353 (0,0))∧Below bw w0 wr) (fun i _ _=>16 - (intOf i).toNat)
 case atStart=>exact ⟨0,by omega,rfl,hW,hb⟩
 case round =>
  clear hW hb
  obtain ⟨t,htt,rfl,hw,hb⟩:=hrel
  have HB:=hid hb
  by_cases hlt:t < 16
  · obtain ⟨y0,q0,r0⟩:=HAT.out (4 * t) (by omega)
    obtain ⟨y1,q1,r1⟩:=HAT.out (4 * t+1) (by omega)
    obtain ⟨y2,q2,r2⟩:=HAT.out (4 * t+2) (by omega)
    obtain ⟨y3,q3,r3⟩:=HAT.out (4 * t+3) (by omega)
    have hword:wordAt l t=orw (orw (orw (shl 24 y0.toUInt32) (shl 16 y1.toUInt32)) (shl 8 y2.toUInt32)) y3.toUInt32:=by
     unfold wordAt
     rw [u8_at _ _ _ q0,u8_at _ _ _ q1,u8_at _ _ _ q2,u8_at _ _ _ q3]
    have HW:=hid hword
    have k1:(y0.toNat:Int) * 16777216 % 4294967296=((shl 24 y0.toUInt32).toNat:Int):=shl_u8 24 y0
    have k2:(y1.toNat:Int) * 65536 % 4294967296=((shl 16 y1.toUInt32).toNat:Int):=shl_u8 16 y1
    have k3:(y2.toNat:Int) * 256 % 4294967296=((shl 8 y2.toUInt32).toNat:Int):=shl_u8 8 y2
    have hkp:∀ {j:Nat} {v:Value},w0.cell? ⟨b,j,none⟩=some v→wr.cell? ⟨b,j,none⟩=some v:=fun hv=>(hb.cell (show b < bw from HBB.out)).trans hv
    have m0:=hkp r0
    have m1:=hkp r1
    have m2:=hkp r2
    have m3:=hkp r3
    clear r0 r1 r2 r3 q0 q1 q2 q3 hword hkp hb
    have HWA:=hid hw
    have hcc:wr.cell? ⟨bw,t,none⟩=some (wv 0):=by
     have:=cell_of_row wr bw t _ _ _ hw
     rw [this,wArr_get l t t (by omega),if_neg (by omega)]
    have hff:wr.frozen? ⟨bw,t,none⟩=false:=frozen_of_row wr bw t _ _ hw
    clear hw
    have h9:decide ((t:Int) < 16)=true:=by simp;omega
    have HT:=hid hlt
    clear hlt htt
    go_upto_region 4 with (fail)
    clear h9
    have hlt:=HT.out
    go_region
    all_goals
     have hw2:=heap_setCell_same wr.drew bw t _ _ (wv (wordAt l t)) HWA.out
     rw [← wT_low l t HT.out,wArr_set l t (by have:=HT.out;omega),wT_low l t HT.out] at hw2
     rw [HW.out] at hw2
     have hb2:Below bw w0 (wr.drew.setCell ⟨bw,t,none⟩ (wv (orw (orw (orw (shl 24 y0.toUInt32) (shl 16 y1.toUInt32)) (shl 8 y2.toUInt32)) y3.toUInt32))):=(HB.out.drew).setCell (Nat.le_refl _) _
     have HW2:=hid hw2;have HB2:=hid hb2
     clear hw2 hb2 m0 m1 m2 m3 k1 k2 k3 hcc hff
     go_wp2_with fail
     go_roundw
     case rel=>exact ⟨t+1,by have:=HT.out;omega,by go_num,HW2.out,HB2.out⟩
     case measure=>have:=HT.out;simp [intOf];omega
  · obtain rfl:t=16:=by omega
    have h9:decide (((16:Nat):Int) < 16)=false:=by decide
    clear hlt htt HB
    go_wp2_with fail
    refine HK.out _ _ _ _ _ _ _ _ _ _ _ _ _ _ _ _ _ _ _ _ _ _ _ _ _ _ _ _ _ _ _ _ _ _ _ _ _ _ _ _ _ _ _ _ _ _ _ _ _ _ _ _ _ _ _ _ _ _ _ _ _ _ _ _ _ _ _ _ _ _ _ _ _ _ _ _ _ _ _ _ _ _ _ _ _ _ _ _ _ _ _ _ _ _ _ _ _ _ _ _ _ _ _ _ _ _ _ _ _ _ _ _ _ _ _ _ _ _ _ _ _ _ _ _ _ _ _ _ _ _ _ _ _ _ _ _ _ _ _ _ _ _ _ _ _ _ _ _ _ _ _ _ _ _ _ _ _ _ _ _ _ _ _ _ _ _ _ _ _ _ _ _ _ _ _ _ _ _ _ _ _ _ _ _ _ _ _ _ _ _ _ _ _ _ _ _ _ _ _ _ _ _ _ _ _ _ _ _ _ _ _ _ _ _ _ _ _  _ hw hb
end
section
@[go_sem] theorem not_u32' (x:UInt32):bits .xor .u32 (if IntKind.u32.signed=true then -1 else IntKind.u32.max) (x.toNat:Int)=((nt x).toNat:Int):=by
  rw [if_neg (by decide)];exact not_u32 x
noncomputable def tk11:Code:=headSeq (dropSeq 3 (Tryz.f228.body.getD .skip))
noncomputable def tkC:Code:=headSeq (dropSeq 4 (Tryz.f228.body.getD .skip))
set_option maxHeartbeats 4000000
theorem take_11 (W:World) (gs bw:Nat) (v1:Value) (a b c d e f g h:UInt32) (hc:∀ i,i < 8→W.cell? ⟨gs,i,none⟩=some (wv ([a,b,c,d,e,f,g,h].getD i 0))) (u2 u3 u5 u6 u7 u8 u9 u10 u11 u12 u13 u14 u15 u16 u17 u18 u19 u20 u21 u22 u23 u24 u25 u26 u27 u28 u29 u30 u31 u32 u33 u34 u35 u36 u37 u38 u39 u40 u41 u42 u43 u44 u45 u46 u47 u48 u49 u50 u51 u52 u53 u54 u55 u56 u57 u58 u59 u60 u61 u62 u63 u64 u65 u66 u67 u68 u69 u70 u71 u72 u73 u74 u75 u76 u77 u78 u79 u80 u81 u82 u83 u84 u85 u86 u87 u88 u89 u90 u91 u92 u93 u94 u95 u96 u97 u98 u99 u100 u101 u102 u103 u104 u105 u106 u107 u108 u109 u110 u111 u112 u113 u114 u115 u116 u117 u118 u119 u120 u121 u122 u123 u124 u125 u126 u127 u128 u129 u130 u131 u132 u133 u134 u135 u136 u137 u138 u139 u140 u141 u142 u143 u144 u145 u146 u147 u148 u149 u150 u151 u152 u153 u154 u155 u156 u157 u158 u159 u160 u161 u162 u163 u164 u165 u166 u167 u168 u169 u170 u171 u172 u173 u174 u175 u176 u177 u178 u179 u180 u181 u182 u183 u184 u185 u186 u187 u188 u189 u190 u191 u192 u193 u194 u195 u196 u197 u198 u199 u200 u201 u202 u203 u204 u205 u206 u207 u208 u209 u210 u211 u212 u213 u214 u215 u216 u217 u218 u219:Value) (K:Act→World→Prop) (PST:Ending→World→Prop)
 (hK:∀ (u2 u3 u5 u6 u7 u8 u17 u18 u19 u20 u21 u22 u23 u24 u25 u26 u27 u28 u29 u30 u31 u32 u33 u34 u35 u36 u37 u38 u39 u40 u41 u42 u43 u44 u45 u46 u47 u48 u49 u50 u51 u52 u53 u54 u55 u56 u57 u58 u59 u60 u61 u62 u63 u64 u65 u66 u67 u68 u69 u70 u71 u72 u73 u74 u75 u76 u77 u78 u79 u80 u81 u82 u83 u84 u85 u86 u87 u88 u89 u90 u91 u92 u93 u94 u95 u96 u97 u98 u99 u100 u101 u102 u103 u104 u105 u106 u107 u108 u109 u110 u111 u112 u113 u114 u115 u116 u117 u118 u119 u120 u121 u122 u123 u124 u125 u126 u127 u128 u129 u130 u131 u132 u133 u134 u135 u136 u137 u138 u139 u140 u141 u142 u143 u144 u145 u146 u147 u148 u149 u150 u151 u152 u153 u154 u155 u156 u157 u158 u159 u160 u161 u162 u163 u164 u165 u166 u167 u168 u169 u170 u171 u172 u173 u174 u175 u176 u177 u178 u179 u180 u181 u182 u183 u184 u185 u186 u187 u188 u189 u190 u191 u192 u193 u194 u195 u196 u197 u198 u199 u200 u201 u202 u203 u204 u205 u206 u207 u208 u209 u210 u211 u212 u213 u214 u215 u216 u217 u218 u219:Value) (n:Nat),K ⟨#[.pointer (some ⟨gs,0,none⟩),v1,u2,u3,.pointer (some ⟨bw,0,none⟩),u5,u6,u7,u8,.int .u32 (a.toNat:Int),.int .u32 (b.toNat:Int),.int .u32 (c.toNat:Int),.int .u32 (d.toNat:Int),.int .u32 (e.toNat:Int),.int .u32 (f.toNat:Int),.int .u32 (g.toNat:Int),.int .u32 (h.toNat:Int),u17,u18,u19,u20,u21,u22,u23,u24,u25,u26,u27,u28,u29,u30,u31,u32,u33,u34,u35,u36,u37,u38,u39,u40,u41,u42,u43,u44,u45,u46,u47,u48,u49,u50,u51,u52,u53,u54,u55,u56,u57,u58,u59,u60,u61,u62,u63,u64,u65,u66,u67,u68,u69,u70,u71,u72,u73,u74,u75,u76,u77,u78,u79,u80,u81,u82,u83,u84,u85,u86,u87,u88,u89,u90,u91,u92,u93,u94,u95,u96,u97,u98,u99,u100,u101,u102,u103,u104,u105,u106,u107,u108,u109,u110,u111,u112,u113,u114,u115,u116,u117,u118,u119,u120,u121,u122,u123,u124,u125,u126,u127,u128,u129,u130,u131,u132,u133,u134,u135,u136,u137,u138,u139,u140,u141,u142,u143,u144,u145,u146,u147,u148,u149,u150,u151,u152,u153,u154,u155,u156,u157,u158,u159,u160,u161,u162,u163,u164,u165,u166,u167,u168,u169,u170,u171,u172,u173,u174,u175,u176,u177,u178,u179,u180,u181,u182,u183,u184,u185,u186,u187,u188,u189,u190,u191,u192,u193,u194,u195,u196,u197,u198,u199,u200,u201,u202,u203,u204,u205,u206,u207,u208,u209,u210,u211,u212,u213,u214,u215,u216,u217,u218,u219],[]⟩ (W.drewN n)) :
 Code.wp Tryz.prog tk11 (Exit.then K (bodyPost Tryz.prog Tryz.f228 PST)) ⟨#[.pointer (some ⟨gs,0,none⟩),v1,u2,u3,.pointer (some ⟨bw,0,none⟩),u5,u6,u7,u8,u9,u10,u11,u12,u13,u14,u15,u16,u17,u18,u19,u20,u21,u22,u23,u24,u25,u26,u27,u28,u29,u30,u31,u32,u33,u34,u35,u36,u37,u38,u39,u40,u41,u42,u43,u44,u45,u46,u47,u48,u49,u50,u51,u52,u53,u54,u55,u56,u57,u58,u59,u60,u61,u62,u63,u64,u65,u66,u67,u68,u69,u70,u71,u72,u73,u74,u75,u76,u77,u78,u79,u80,u81,u82,u83,u84,u85,u86,u87,u88,u89,u90,u91,u92,u93,u94,u95,u96,u97,u98,u99,u100,u101,u102,u103,u104,u105,u106,u107,u108,u109,u110,u111,u112,u113,u114,u115,u116,u117,u118,u119,u120,u121,u122,u123,u124,u125,u126,u127,u128,u129,u130,u131,u132,u133,u134,u135,u136,u137,u138,u139,u140,u141,u142,u143,u144,u145,u146,u147,u148,u149,u150,u151,u152,u153,u154,u155,u156,u157,u158,u159,u160,u161,u162,u163,u164,u165,u166,u167,u168,u169,u170,u171,u172,u173,u174,u175,u176,u177,u178,u179,u180,u181,u182,u183,u184,u185,u186,u187,u188,u189,u190,u191,u192,u193,u194,u195,u196,u197,u198,u199,u200,u201,u202,u203,u204,u205,u206,u207,u208,u209,u210,u211,u212,u213,u214,u215,u216,u217,u218,u219],[]⟩ W:=by
 have HK:=hid hK
 have c0:W.cell? ⟨gs,0,none⟩=some (.int .u32 (a.toNat:Int)):=hc 0 (by omega)
 have c1:W.cell? ⟨gs,1,none⟩=some (.int .u32 (b.toNat:Int)):=hc 1 (by omega)
 have c2:W.cell? ⟨gs,2,none⟩=some (.int .u32 (c.toNat:Int)):=hc 2 (by omega)
 have c3:W.cell? ⟨gs,3,none⟩=some (.int .u32 (d.toNat:Int)):=hc 3 (by omega)
 have c4:W.cell? ⟨gs,4,none⟩=some (.int .u32 (e.toNat:Int)):=hc 4 (by omega)
 have c5:W.cell? ⟨gs,5,none⟩=some (.int .u32 (f.toNat:Int)):=hc 5 (by omega)
 have c6:W.cell? ⟨gs,6,none⟩=some (.int .u32 (g.toNat:Int)):=hc 6 (by omega)
 have c7:W.cell? ⟨gs,7,none⟩=some (.int .u32 (h.toNat:Int)):=hc 7 (by omega)
 clear hK hc
 conv=>arg 2;whnf
 go_quiet (fail)
 refine HK.out _ _ _ _ _ _ _ _ _ _ _ _ _ _ _ _ _ _ _ _ _ _ _ _ _ _ _ _ _ _ _ _ _ _ _ _ _ _ _ _ _ _ _ _ _ _ _ _ _ _ _ _ _ _ _ _ _ _ _ _ _ _ _ _ _ _ _ _ _ _ _ _ _ _ _ _ _ _ _ _ _ _ _ _ _ _ _ _ _ _ _ _ _ _ _ _ _ _ _ _ _ _ _ _ _ _ _ _ _ _ _ _ _ _ _ _ _ _ _ _ _ _ _ _ _ _ _ _ _ _ _ _ _ _ _ _ _ _ _ _ _ _ _ _ _ _ _ _ _ _ _ _ _ _ _ _ _ _ _ _ _ _ _ _ _ _ _ _ _ _ _ _ _ _ _ _ _ _ _ _ _ _ _ _ _ _ _ _ _ _ _ _ _ _ _ _ _ _ _ _ _ _ _ _ _ _ _ _ _  _
set_option maxHeartbeats 8000000 in
theorem take_c (w0 W:World) (gs bw:Nat) (v1:Value) (l:List UInt8) (s:S8) (hW:W.heap[bw]?=some (.cells (wArr l 64) 353 (0,0))) (hb:Below bw w0 W) (ht:RoundTab W) (u2 u3 u5 u6 u7 u8 u17 u18 u19 u20 u21 u22 u23 u24 u25 u26 u27 u28 u29 u30 u31 u32 u33 u34 u35 u36 u37 u38 u39 u40 u41 u42 u43 u44 u45 u46 u47 u48 u49 u50 u51 u52 u53 u54 u55 u56 u57 u58 u59 u60 u61 u62 u63 u64 u65 u66 u67 u68 u69 u70 u71 u72 u73 u74 u75 u76 u77 u78 u79 u80 u81 u82 u83 u84 u85 u86 u87 u88 u89 u90 u91 u92 u93 u94 u95 u96 u97 u98 u99 u100 u101 u102 u103 u104 u105 u106 u107 u108 u109 u110 u111 u112 u113 u114 u115 u116 u117 u118 u119 u120 u121 u122 u123 u124 u125 u126 u127 u128 u129 u130 u131 u132 u133 u134 u135 u136 u137 u138 u139 u140 u141 u142 u143 u144 u145 u146 u147 u148 u149 u150 u151 u152 u153 u154 u155 u156 u157 u158 u159 u160 u161 u162 u163 u164 u165 u166 u167 u168 u169 u170 u171 u172 u173 u174 u175 u176 u177 u178 u179 u180 u181 u182 u183 u184 u185 u186 u187 u188 u189 u190 u191 u192 u193 u194 u195 u196 u197 u198 u199 u200 u201 u202 u203 u204 u205 u206 u207 u208 u209 u210 u211 u212 u213 u214 u215 u216 u217 u218 u219:Value) (K:Act→World→Prop) (PST:Ending→World→Prop)
 (hK:∀ (u2 u3 u5 u6 u7 u8 u17 u18 u19 u20 u21 u22 u23 u24 u25 u26 u27 u28 u29 u30 u31 u32 u33 u34 u35 u36 u37 u38 u39 u40 u41 u42 u43 u44 u45 u46 u47 u48 u49 u50 u51 u52 u53 u54 u55 u56 u57 u58 u59 u60 u61 u62 u63 u64 u65 u66 u67 u68 u69 u70 u71 u72 u73 u74 u75 u76 u77 u78 u79 u80 u81 u82 u83 u84 u85 u86 u87 u88 u89 u90 u91 u92 u93 u94 u95 u96 u97 u98 u99 u100 u101 u102 u103 u104 u105 u106 u107 u108 u109 u110 u111 u112 u113 u114 u115 u116 u117 u118 u119 u120 u121 u122 u123 u124 u125 u126 u127 u128 u129 u130 u131 u132 u133 u134 u135 u136 u137 u138 u139 u140 u141 u142 u143 u144 u145 u146 u147 u148 u149 u150 u151 u152 u153 u154 u155 u156 u157 u158 u159 u160 u161 u162 u163 u164 u165 u166 u167 u168 u169 u170 u171 u172 u173 u174 u175 u176 u177 u178 u179 u180 u181 u182 u183 u184 u185 u186 u187 u188 u189 u190 u191 u192 u193 u194 u195 u196 u197 u198 u199 u200 u201 u202 u203 u204 u205 u206 u207 u208 u209 u210 u211 u212 u213 u214 u215 u216 u217 u218 u219:Value) (w':World),w'.heap=W.heap→Below bw w0 w'→K ⟨#[.pointer (some ⟨gs,0,none⟩),v1,u2,u3,.pointer (some ⟨bw,0,none⟩),u5,u6,u7,u8,.int .u32 ((rounds l s 64).a.toNat:Int),.int .u32 ((rounds l s 64).b.toNat:Int),.int .u32 ((rounds l s 64).c.toNat:Int),.int .u32 ((rounds l s 64).d.toNat:Int),.int .u32 ((rounds l s 64).e.toNat:Int),.int .u32 ((rounds l s 64).f.toNat:Int),.int .u32 ((rounds l s 64).g.toNat:Int),.int .u32 ((rounds l s 64).h.toNat:Int),u17,u18,u19,u20,u21,u22,u23,u24,u25,u26,u27,u28,u29,u30,u31,u32,u33,u34,u35,u36,u37,u38,u39,u40,u41,u42,u43,u44,u45,u46,u47,u48,u49,u50,u51,u52,u53,u54,u55,u56,u57,u58,u59,u60,u61,u62,u63,u64,u65,u66,u67,u68,u69,u70,u71,u72,u73,u74,u75,u76,u77,u78,u79,u80,u81,u82,u83,u84,u85,u86,u87,u88,u89,u90,u91,u92,u93,u94,u95,u96,u97,u98,u99,u100,u101,u102,u103,u104,u105,u106,u107,u108,u109,u110,u111,u112,u113,u114,u115,u116,u117,u118,u119,u120,u121,u122,u123,u124,u125,u126,u127,u128,u129,u130,u131,u132,u133,u134,u135,u136,u137,u138,u139,u140,u141,u142,u143,u144,u145,u146,u147,u148,u149,u150,u151,u152,u153,u154,u155,u156,u157,u158,u159,u160,u161,u162,u163,u164,u165,u166,u167,u168,u169,u170,u171,u172,u173,u174,u175,u176,u177,u178,u179,u180,u181,u182,u183,u184,u185,u186,u187,u188,u189,u190,u191,u192,u193,u194,u195,u196,u197,u198,u199,u200,u201,u202,u203,u204,u205,u206,u207,u208,u209,u210,u211,u212,u213,u214,u215,u216,u217,u218,u219],[]⟩ w') :
 Code.wp Tryz.prog tkC (Exit.then K (bodyPost Tryz.prog Tryz.f228 PST)) ⟨#[.pointer (some ⟨gs,0,none⟩),v1,u2,u3,.pointer (some ⟨bw,0,none⟩),u5,u6,u7,u8,.int .u32 (s.a.toNat:Int),.int .u32 (s.b.toNat:Int),.int .u32 (s.c.toNat:Int),.int .u32 (s.d.toNat:Int),.int .u32 (s.e.toNat:Int),.int .u32 (s.f.toNat:Int),.int .u32 (s.g.toNat:Int),.int .u32 (s.h.toNat:Int),u17,u18,u19,u20,u21,u22,u23,u24,u25,u26,u27,u28,u29,u30,u31,u32,u33,u34,u35,u36,u37,u38,u39,u40,u41,u42,u43,u44,u45,u46,u47,u48,u49,u50,u51,u52,u53,u54,u55,u56,u57,u58,u59,u60,u61,u62,u63,u64,u65,u66,u67,u68,u69,u70,u71,u72,u73,u74,u75,u76,u77,u78,u79,u80,u81,u82,u83,u84,u85,u86,u87,u88,u89,u90,u91,u92,u93,u94,u95,u96,u97,u98,u99,u100,u101,u102,u103,u104,u105,u106,u107,u108,u109,u110,u111,u112,u113,u114,u115,u116,u117,u118,u119,u120,u121,u122,u123,u124,u125,u126,u127,u128,u129,u130,u131,u132,u133,u134,u135,u136,u137,u138,u139,u140,u141,u142,u143,u144,u145,u146,u147,u148,u149,u150,u151,u152,u153,u154,u155,u156,u157,u158,u159,u160,u161,u162,u163,u164,u165,u166,u167,u168,u169,u170,u171,u172,u173,u174,u175,u176,u177,u178,u179,u180,u181,u182,u183,u184,u185,u186,u187,u188,u189,u190,u191,u192,u193,u194,u195,u196,u197,u198,u199,u200,u201,u202,u203,u204,u205,u206,u207,u208,u209,u210,u211,u212,u213,u214,u215,u216,u217,u218,u219],[]⟩ W:=by
 have HK:=hid hK
 have HT:=hid ht
 have HW:=hid hW
 clear hK ht hW
 conv=>arg 2;whnf
 go_wp2_with fail
 go_loopw [134,9,10,11,12,13,14,15,16,17,18,19] (fun i x9 x10 x11 x12 x13 x14 x15 x16 _ _ _ wr=>∃ t:Nat,t≤64∧i=.int .i64 t∧x9=.int .u32 ((rounds l s t).a.toNat:Int)∧x10=.int .u32 ((rounds l s t).b.toNat:Int)∧x11=.int .u32 ((rounds l s t).c.toNat:Int)∧x12=.int .u32 ((rounds l s t).d.toNat:Int)∧x13=.int .u32 ((rounds l s t).e.toNat:Int)∧x14=.int .u32 ((rounds l s t).f.toNat:Int)∧x15=.int .u32 ((rounds l s t).g.toNat:Int)∧x16=.int .u32 ((rounds l s t).h.toNat:Int)∧wr.heap=W.heap∧Below bw w0 wr) (fun i _ _ _ _ _ _ _ _ _ _ _ _=>64 - (intOf i).toNat)
 case atStart=>exact ⟨0,by omega,rfl,rfl,rfl,rfl,rfl,rfl,rfl,rfl,rfl,rfl,hb⟩
 case round =>
  clear hb
  obtain ⟨t,htt,rfl,rfl,rfl,rfl,rfl,rfl,rfl,rfl,rfl,hh,hb⟩:=hrel
  have HB:=hid hb
  have HH:=hid hh
  by_cases hlt:t < 64
  · have HR:=hid (show rounds l s (t+1)=rnd (kT t) (wT l t) (rounds l s t) from rfl)
    obtain ⟨S,hS⟩:∃ S,S=rounds l s t:=⟨_,rfl⟩
    rw [← hS] at HR ⊢
    clear hS
    obtain ⟨a,b,c,d,e,f,g,h⟩:=S
    dsimp only
    have p1:wr.cell? ⟨bw,t,none⟩=some (.int .u32 ((wT l t).toNat:Int)):=by
     have:=cell_of_row wr bw t _ _ _ (show wr.heap[bw]?=_ by rw [hh];exact HW.out)
     rw [this,wArr_get l 64 t (by omega),if_pos hlt];rfl
    have p2:wr.cell? ⟨3,t,none⟩=some (.int .u32 ((kT t).toNat:Int)):=(World.cell?_of_block (a:=⟨3,t,none⟩) (by rw [hh])).trans (HT.out t hlt)
    obtain ⟨kt,hkt⟩:∃ x,x=kT t:=⟨_,rfl⟩
    obtain ⟨wt,hwt⟩:∃ x,x=wT l t:=⟨_,rfl⟩
    rw [← hkt] at p2 HR
    rw [← hwt] at p1 HR
    have h9:decide ((t:Int) < 64)=true:=by simp;omega
    have HLT:=hid hlt
    clear hlt htt hh hb hkt hwt
    go_upto_region 15 with (fail)
    clear h9
    have dt:((t:Nat):Int) < 64:=by have:=HLT.out;omega
    have dn:(0:Int)≤((t:Nat):Int):=by omega
    have dm:(((t:Nat):Int)).toNat=t:=by omega
    go_quiet ((go_at_call 253;exact turn_q _ _ _ _ (by decide)))
    trace "quiet"
    have HB2:=hid (below_drewN HB.out nq)
    have HH2:=hid (show (wr.drewN nq).heap=W.heap from HH.out)
    clear p1 p2 dt dn dm HB HH
    generalize wr.drewN nq=w2 at *
    go_upto_region 16 with (fail)
    have hlt:=HLT.out
    go_wp2_with (go_at_call 253;(with_reducible refine (turn_any _ _ _ (by decide)).mono ?_);rintro e9 w9 ⟨rfl,nn,rfl⟩)
    go_roundw
    case rel=>exact ⟨t+1,by omega,by go_num,by rw [HR.out];rfl,by rw [HR.out];rfl,by rw [HR.out];rfl,by rw [HR.out];rfl,by rw [HR.out];rfl,by rw [HR.out];rfl,by rw [HR.out];rfl,by rw [HR.out];rfl,HH2.out,below_drewN HB2.out _⟩
    case measure=>simp [intOf];omega
  · obtain rfl:t=64:=by omega
    have h9:decide (((64:Nat):Int) < 64)=false:=by decide
    clear hlt htt HB HH
    go_wp2_with fail
    refine HK.out _ _ _ _ _ _ _ _ _ _ _ _ _ _ _ _ _ _ _ _ _ _ _ _ _ _ _ _ _ _ _ _ _ _ _ _ _ _ _ _ _ _ _ _ _ _ _ _ _ _ _ _ _ _ _ _ _ _ _ _ _ _ _ _ _ _ _ _ _ _ _ _ _ _ _ _ _ _ _ _ _ _ _ _ _ _ _ _ _ _ _ _ _ _ _ _ _ _ _ _ _ _ _ _ _ _ _ _ _ _ _ _ _ _ _ _ _ _ _ _ _ _ _ _ _ _ _ _ _ _ _ _ _ _ _ _ _ _ _ _ _ _ _ _ _ _ _ _ _ _ _ _ _ _ _ _ _ _ _ _ _ _ _ _ _ _ _ _ _ _ _ _ _ _ _ _ _ _ _ _ _ _ _ _ _ _ _ _ _ _ _ _ _ _ _ _ _ _ _ _ _ _ _ _ _ _ _ _ _  _ hh hb
end
end Go.Proofs.YtgkehahklccacaaGreatDoor
