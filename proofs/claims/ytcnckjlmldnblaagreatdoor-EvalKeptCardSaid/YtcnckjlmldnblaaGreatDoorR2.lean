import Derived.Test.YtcnckjlmldnblaaGreatDoorR1
import Derived.Test.YtcnckjlmldnblaaGreatDoorE14
import Derived.BigGuardPart
import Derived.IntWalk
import Derived.Test.YtcnckjlmldnblaaGreatDoorE47
import Derived.Handy
import Derived.Test.YtcnckjlmldnblaaGreatDoorE20
import Derived.Test.YtcnckjlmldnblaaGreatDoorE32
import Derived.OrdersHeld
import Derived.Deep.RegionHeld3
import Derived.WalkLawsBesides
namespace Go.Proofs.YtcnckjlmldnblaaGreatDoor
open Go Go.RowKit
set_option maxRecDepth 100000
set_option maxHeartbeats 16000000
set_option linter.unusedVariables false
set_option linter.unusedSimpArgs false
open List renaming setIfInBounds_toArray → pa, set_cons_zero → pb, set_cons_succ → pc, getElem_toArray → pd, getElem_cons_succ → pe, getElem_cons_zero → pf
theorem plus_ok (w:World) (a b:Int) (ha:I64 a) (hb:I64 b) (h:I64 (a+b)):Calls Tryz.prog 108 #[.int .i64 a,.int .i64 b] w fun e w'=>e=.returned (.tuple #[.int .i64 (a+b),.bool true])∧w=w':=by
 obtain ⟨a0,a1⟩:=ha
 obtain ⟨b0,b1⟩:=hb
 obtain ⟨h0,h1⟩:=h
 rcases Int.lt_trichotomy b 0 with c | c | c
 · have c2:¬ 0 < b:=by omega
   have c3:¬ a < -9223372036854775808 - b:=by omega
   go_enter Tryz.func108,Tryz.ntmps108
   go_wp2
   go_ret2
   exact ⟨rfl,rfl⟩
 · subst c
   go_enter Tryz.func108,Tryz.ntmps108
   go_wp2
   go_ret2
   exact ⟨by simp,rfl⟩
 · have c2:¬ b < 0:=by omega
   have c3:¬ 9223372036854775807 - b < a:=by omega
   go_enter Tryz.func108,Tryz.ntmps108
   go_wp2
   go_ret2
   exact ⟨rfl,rfl⟩
theorem plus_no (w:World) (a b:Int) (ha:I64 a) (hb:I64 b) (h:¬ I64 (a+b)):Calls Tryz.prog 108 #[.int .i64 a,.int .i64 b] w fun e w'=>e=.returned (.tuple #[.int .i64 0,.bool false])∧w=w':=by
 obtain ⟨a0,a1⟩:=ha
 obtain ⟨b0,b1⟩:=hb
 unfold I64 at h
 rcases Int.lt_trichotomy b 0 with c | c | c
 · have c2:¬ 0 < b:=by omega
   have c3:a < -9223372036854775808 - b:=by omega
   clear h
   go_enter Tryz.func108,Tryz.ntmps108
   go_wp2
   go_ret2
   exact ⟨rfl,rfl⟩
 · omega
 · have c2:¬ b < 0:=by omega
   have c3:9223372036854775807 - b < a:=by omega
   clear h
   go_enter Tryz.func108,Tryz.ntmps108
   go_wp2
   go_ret2
   exact ⟨rfl,rfl⟩
def fitI (n:Int):Bool:=decide (-9223372036854775808≤n) && decide (n≤9223372036854775807)
theorem fitI_yes {n:Int} (h:I64 n):fitI n=true:=by unfold fitI;simp;exact h
theorem fitI_no {n:Int} (h:¬ I64 n):fitI n=false:=by
 unfold fitI;unfold I64 at h
 by_cases h1:-9223372036854775808≤n <;> by_cases h2:n≤9223372036854775807 <;> simp [h1,h2] <;> omega
/-- A product that is told, or not. -/
def TimesOut (e:Ending) (a b:Int):Prop:=∃ n:Int,e=.returned (.tuple #[.int .i64 n,.bool (fitI (a * b))])∧I64 n∧(I64 (a * b)→n=a * b)
theorem TimesOut.yes {a b:Int} (h:I64 (a * b)):TimesOut (.returned (.tuple #[.int .i64 (a * b),.bool true])) a b:=⟨a * b,by rw [fitI_yes h],h,fun _=>rfl⟩
theorem TimesOut.no {a b n:Int} (hn:I64 n) (h:¬ I64 (a * b)):TimesOut (.returned (.tuple #[.int .i64 n,.bool false])) a b:=⟨n,by rw [fitI_no h],hn,fun h'=>absurd h' h⟩
theorem TimesOut.yes' {a b n:Int} (h:a * b=n) (hn:I64 n):TimesOut (.returned (.tuple #[.int .i64 n,.bool true])) a b:=by subst h;exact .yes hn
theorem TimesOut.no' {a b n:Int} (h:a * b=n) (hn:¬ I64 n):TimesOut (.returned (.tuple #[.int .i64 0,.bool false])) a b:=.no ⟨by decide,by decide⟩ (by rw [h];exact hn)
theorem times_step (a b:Int) (ha:I64 a) (ha0:a ≠ 0) (hb:2≤b) (hb1:b≤9223372036854775807) (hc:∀ w,Calls Tryz.prog 109 #[.int .i64 a,.int .i64 (b / 2)] w fun e w'=>TimesOut e a (b / 2)∧w=w') (w:World) :
 Calls Tryz.prog 109 #[.int .i64 a,.int .i64 b] w fun e w'=>TimesOut e a b∧w=w':=by
 obtain ⟨m,hm⟩:∃ m,m=a * (b / 2):=⟨_,rfl⟩
 have hmab:a * b=2 * m+a * (b % 2):=by
  have h1:b=2 * (b / 2)+b % 2:=by omega
  calc a * b=a * (2 * (b / 2)+b % 2):=by rw [← h1]
   _=2 * (a * (b / 2))+a * (b % 2):=by rw [Int.mul_add];congr 1;rw [← Int.mul_assoc,Int.mul_comm a 2,Int.mul_assoc]
   _=_:=by rw [hm]
 have hsg:(0 < a∧a≤m)∨(a < 0∧m≤a):=by
  have h2:1≤b / 2:=by omega
  have h3:0≤b / 2 - 1:=by omega
  rcases Int.lt_or_gt_of_ne ha0 with h | h
  · right
    refine ⟨h,?_⟩
    have h4:=Int.mul_nonneg (show 0≤-a by omega) h3
    rw [Int.mul_sub,Int.neg_mul,← hm] at h4
    omega
  · left
    refine ⟨h,?_⟩
    have h4:=Int.mul_nonneg (show 0≤a by omega) h3
    rw [Int.mul_sub,← hm] at h4
    omega
 have HAB:=Lib.hid hmab
 obtain ⟨a1,a2⟩:=ha
 have c0:(a == 0)=false:=by simpa using ha0
 have c1:(b == 0)=false:=by simp;omega
 have c2:¬ b < 0:=by omega
 have c3:(b == 1)=false:=by simp;omega
 have b0:0≤b:=by omega
 by_cases hf:I64 (a * (b / 2))
 · have HC:=Lib.hid (fun w=>(hc w).mono (fun e w' h=>by
    obtain ⟨⟨n,he,-,hn⟩,hw⟩:=h
    rw [fitI_yes hf,hn hf,← hm] at he
    exact ⟨he,hw⟩):∀ w,Calls Tryz.prog 109 #[.int .i64 a,.int .i64 (b / 2)] w fun e w'=>e=.returned (.tuple #[.int .i64 m,.bool true])∧w=w')
   rw [← hm] at hf
   have hf0:=hf.1
   have hf1:=hf.2
   by_cases h2:I64 (m+m)
   · have HP:=Lib.hid (fun w=>plus_ok w m m hf hf h2)
     have HI2:=Lib.hid h2
     by_cases hr:b % 2=1
     · have r1:(b % 2 == 1)=true:=by simpa using hr
       have hab:a * b=m+m+a:=by rw [hmab,hr];omega
       by_cases h3:I64 (m+m+a)
       · have HQ:=Lib.hid (fun w=>plus_ok w (m+m) a h2 ⟨a1,a2⟩ h3)
         have HX:=Lib.hid (TimesOut.yes' hab h3)
         clear hm hmab hc ha0 hf h2 h3 hr hab
         go_enter Tryz.func109,Tryz.ntmps109
         go_wp2_with (first | (go_at_call 109;refine (HC.out _).mono ?_;rintro e w' ⟨rfl,rfl⟩) | (go_at_call 108;(with_reducible refine (HP.out _).mono ?_);rintro e w' ⟨rfl,rfl⟩) | (go_at_call 108;(with_reducible refine (HQ.out _).mono ?_);rintro e w' ⟨rfl,rfl⟩))
         go_ret2
         exact ⟨HX.out,rfl⟩
       · have HQ:=Lib.hid (fun w=>plus_no w (m+m) a h2 ⟨a1,a2⟩ h3)
         have HX:=Lib.hid (TimesOut.no' hab h3)
         clear hm hmab hc ha0 hf h2 h3 hr hab
         go_enter Tryz.func109,Tryz.ntmps109
         go_wp2_with (first | (go_at_call 109;refine (HC.out _).mono ?_;rintro e w' ⟨rfl,rfl⟩) | (go_at_call 108;(with_reducible refine (HP.out _).mono ?_);rintro e w' ⟨rfl,rfl⟩) | (go_at_call 108;(with_reducible refine (HQ.out _).mono ?_);rintro e w' ⟨rfl,rfl⟩))
         go_ret2
         exact ⟨HX.out,rfl⟩
     · have r1:(b % 2 == 1)=false:=by simpa using hr
       have hab:a * b=m+m:=by rw [hmab,show b % 2=0 by omega];omega
       have HX:=Lib.hid (TimesOut.yes' hab h2)
       clear hm hmab hc ha0 hf h2 hr hab
       go_enter Tryz.func109,Tryz.ntmps109
       go_wp2_with (first | (go_at_call 109;refine (HC.out _).mono ?_;rintro e w' ⟨rfl,rfl⟩) | (go_at_call 108;(with_reducible refine (HP.out _).mono ?_);rintro e w' ⟨rfl,rfl⟩))
       go_ret2
       exact ⟨HX.out,rfl⟩
   · have HP:=Lib.hid (fun w=>plus_no w m m hf hf h2)
     have HX:=Lib.hid (show TimesOut (.returned (.tuple #[.int .i64 0,.bool false])) a b from .no ⟨by decide,by decide⟩ (by
      unfold I64 at h2 ⊢
      have hr:b % 2=0∨b % 2=1:=by omega
      rw [hmab]
      rcases hr with hr | hr <;> rw [hr] <;> omega))
     clear hm hmab hc ha0 hf h2
     go_enter Tryz.func109,Tryz.ntmps109
     go_wp2_with (first | (go_at_call 109;refine (HC.out _).mono ?_;rintro e w' ⟨rfl,rfl⟩) | (go_at_call 108;(with_reducible refine (HP.out _).mono ?_);rintro e w' ⟨rfl,rfl⟩))
     go_ret2
     exact ⟨HX.out,rfl⟩
 · have HC:=Lib.hid (fun w=>(hc w).mono (fun e w' h=>by
    obtain ⟨⟨n,he,-,hn⟩,hw⟩:=h
    rw [fitI_no hf] at he
    exact ⟨⟨n,he⟩,hw⟩):∀ w,Calls Tryz.prog 109 #[.int .i64 a,.int .i64 (b / 2)] w fun e w'=>(∃ n,e=.returned (.tuple #[.int .i64 n,.bool false]))∧w=w')
   rw [← hm] at hf
   have HX:=Lib.hid (show TimesOut (.returned (.tuple #[.int .i64 0,.bool false])) a b from .no ⟨by decide,by decide⟩ (by
    unfold I64 at hf ⊢
    have hr:b % 2=0∨b % 2=1:=by omega
    rw [hmab]
    rcases hr with hr | hr <;> rw [hr] <;> omega))
   clear hm hmab hc ha0 hf
   go_enter Tryz.func109,Tryz.ntmps109
   go_wp2_with (first | (go_at_call 109;refine (HC.out _).mono ?_;rintro e w' ⟨⟨n,rfl⟩,rfl⟩))
   go_ret2
   exact ⟨HX.out,rfl⟩
theorem times_pos (a:Int) (ha:I64 a) (ha0:a ≠ 0):∀ (k:Nat) (b:Int),1≤b→b≤(k:Int)→b≤9223372036854775807→∀ w,Calls Tryz.prog 109 #[.int .i64 a,.int .i64 b] w fun e w'=>TimesOut e a b∧w=w'
 | 0,b,h1,hk,_,w=>by omega
 | k+1,b,h1,hk,hb,w=>by
   by_cases h2:2≤b
   · exact times_step a b ha ha0 h2 hb (times_pos a ha ha0 k (b / 2) (by omega) (by omega) (by omega)) w
   · obtain rfl:b=1:=by omega
     have c0:(a == 0)=false:=by simpa using ha0
     have HX:=Lib.hid (show TimesOut (.returned (.tuple #[.int .i64 a,.bool true])) a 1 from TimesOut.yes' (by omega) ha)
     obtain ⟨a1,a2⟩:=ha
     clear ha0 h1 hk hb h2
     go_enter Tryz.func109,Tryz.ntmps109
     go_wp2
     go_ret2
     exact ⟨HX.out,rfl⟩
theorem times_any (w:World) (a b:Int) (ha:I64 a) (hb:I64 b):Calls Tryz.prog 109 #[.int .i64 a,.int .i64 b] w fun e w'=>TimesOut e a b∧w=w':=by
 by_cases ha0:a=0
 · subst ha0
   have HX:=Lib.hid (show TimesOut (.returned (.tuple #[.int .i64 0,.bool true])) 0 b from TimesOut.yes' (by omega) ⟨by decide,by decide⟩)
   go_enter Tryz.func109,Tryz.ntmps109
   go_wp2
   go_ret2
   exact ⟨HX.out,rfl⟩
 have c0:(a == 0)=false:=by simpa using ha0
 by_cases hb0:b=0
 · subst hb0
   have HX:=Lib.hid (show TimesOut (.returned (.tuple #[.int .i64 0,.bool true])) a 0 from TimesOut.yes' (by omega) ⟨by decide,by decide⟩)
   clear ha0
   go_enter Tryz.func109,Tryz.ntmps109
   go_wp2
   go_ret2
   exact ⟨HX.out,rfl⟩
 by_cases hp:1≤b
 · exact times_pos a ha ha0 b.toNat b hp (by omega) hb.2 w
 have hn:b < 0:=by omega
 have c1:(b == 0)=false:=by simpa using hb0
 obtain ⟨b1,b2⟩:=hb
 by_cases hm:b=-9223372036854775808
 · have HX:=Lib.hid (show TimesOut (.returned (.tuple #[.int .i64 b,.bool (a == 1)])) a b by
    cases h1:(a == 1)
    · exact .no ⟨b1,b2⟩ (by
       have:a ≠ 1:=by simpa using h1
       unfold I64;rw [hm];omega)
    · obtain rfl:a=1:=by simpa using h1
      exact TimesOut.yes' (by omega) ⟨b1,b2⟩)
   have c2:(b == -9223372036854775808)=true:=by simpa using hm
   clear ha0 hb0 hp hm
   go_enter Tryz.func109,Tryz.ntmps109
   go_wp2
   go_ret2
   exact ⟨HX.out,rfl⟩
 have c2:(b == -9223372036854775808)=false:=by simpa using hm
 have hb1:b≤-1:=by omega
 have c3:(b == 1)=false:=by simp;omega
 by_cases hma:a=-9223372036854775808
 · have HX:=Lib.hid (show TimesOut (.returned (.tuple #[.int .i64 a,.bool false])) a b from .no ha (by unfold I64;rw [hma];omega))
   have c4:(a == -9223372036854775808)=true:=by simpa using hma
   clear ha0 hb0 hp hm hma
   go_enter Tryz.func109,Tryz.ntmps109
   go_wp2
   go_ret2
   exact ⟨HX.out,rfl⟩
 have c4:(a == -9223372036854775808)=false:=by simpa using hma
 have HC:=Lib.hid (fun w=>(times_pos (-a) (by unfold I64 at ha ⊢;omega) (by omega) (-b).toNat (-b) (by omega) (by omega) (by omega) w).mono (fun e w' h=>⟨h.1,h.2⟩):∀ w,Calls Tryz.prog 109 #[.int .i64 (-a),.int .i64 (-b)] w fun e w'=>TimesOut e (-a) (-b)∧w=w')
 have hneg:-a * -b=a * b:=by rw [Int.neg_mul_neg]
 have HT:=Lib.hid (fun e (h:TimesOut e (-a) (-b))=>by
  unfold TimesOut at h ⊢
  rwa [hneg] at h:∀ e,TimesOut e (-a) (-b)→TimesOut e a b)
 obtain ⟨a1,a2⟩:=ha
 have a3:-9223372036854775807≤a:=by omega
 have b3:-9223372036854775807≤b:=by omega
 clear ha0 hb0 hp hm hma hneg
 go_enter Tryz.func109,Tryz.ntmps109
 go_wp2_with (go_at_call 109;(with_reducible refine (HC.out _).mono ?_);rintro e w' ⟨h,hw⟩;have HH:=Lib.hid (HT.out e h);obtain ⟨n,rfl,hn1,-⟩:=h;obtain rfl:=hw)
 go_ret2
 exact ⟨HH.out,rfl⟩
/-- A number's answer. -/
def NumRet (e:Ending) (r:Wr):Prop:=match r with
 | .ok x=>e=.returned (.tuple #[VA x none 0 0,.int .i64 0])
 | .error er=>e=.returned (.tuple #[VA v0 none 0 0,.int .i64 er])
theorem NumRet.ok {e:Ending} {r:Wr} {x:Vl} (h:r=.ok x) (he:e=.returned (.tuple #[VA x none 0 0,.int .i64 0])):NumRet e r:=by subst h;exact he
theorem NumRet.err {e:Ending} {r:Wr} {er:Int} (h:r=.error er) (he:e=.returned (.tuple #[VA v0 none 0 0,.int .i64 er])):NumRet e r:=by subst h;exact he
theorem numW_no {n:Int} (h:¬ I64 n):numW n=.error 111:=by unfold numW;rw [if_neg h]
theorem res2c {fn:Func} {p q:Tmp} (hf:fn.results=#[.cell p 43,.tmp q]) (tmps:Array Value) (w:World) (g:Nat) (x0 x1 x2 x3 u:Value) (hg:w.heap[g]?=some (.cells #[x0,x1,x2,x3] 43 (0,0))) (h6:tmps[p]?=some (.pointer (some ⟨g,0,none⟩))) (h7:tmps[q]?=some u) :
 (results fn tmps).run Tryz.prog w=.ok (.tuple #[.agg #[x0,x1,x2,x3],u]) w:=by
 obtain ⟨c0,c1,c2,c3,-⟩:=box4 hg
 simp [results,hf,go_sem,h6,h7,c0,c1,c2,c3]
theorem num_add_ok (w:World) (a b:Int) (ha:I64 a) (hb:I64 b) (h:I64 (a+b)):Calls Tryz.prog 89 #[.int .i64 18,.int .i64 a,.int .i64 b] w fun e w'=>NumRet e (numW (a+b))∧Below w.heap.size w w':=by
 have HP:=Lib.hid (fun w=>plus_ok w a b ha hb h)
 have H:=Lib.hid (numW_ok h)
 clear ha hb h
 go_enter Tryz.func89,Tryz.ntmps89
 go_wp2_with (first | (go_at_call 108;(with_reducible refine (HP.out _).mono ?_);rintro e w' ⟨rfl,rfl⟩))
 go_returns
 exact ⟨.ok (x:=intV (a+b)) (H.out) rfl,bel1 _ _⟩
theorem num_add_no (w:World) (a b:Int) (ha:I64 a) (hb:I64 b) (h:¬ I64 (a+b)):Calls Tryz.prog 89 #[.int .i64 18,.int .i64 a,.int .i64 b] w fun e w'=>NumRet e (numW (a+b))∧Below w.heap.size w w':=by
 have HP:=Lib.hid (fun w=>plus_no w a b ha hb h)
 have H:=Lib.hid (numW_no h)
 clear ha hb h
 go_enter Tryz.func89,Tryz.ntmps89
 go_wp2_with (first | (go_at_call 108;(with_reducible refine (HP.out _).mono ?_);rintro e w' ⟨rfl,rfl⟩))
 go_returns
 exact ⟨.err (H.out) rfl,bel1 _ _⟩
theorem num_mul_ok (w:World) (a b:Int) (ha:I64 a) (hb:I64 b) (h:I64 (a * b)):Calls Tryz.prog 89 #[.int .i64 20,.int .i64 a,.int .i64 b] w fun e w'=>NumRet e (numW (a * b))∧Below w.heap.size w w':=by
 have HP:=Lib.hid (fun w=>(times_any w a b ha hb).mono (fun e w' q=>by
  obtain ⟨⟨n,he,-,hn⟩,hw⟩:=q
  rw [fitI_yes h,hn h] at he
  exact ⟨he,hw⟩):∀ w,Calls Tryz.prog 109 #[.int .i64 a,.int .i64 b] w fun e w'=>e=.returned (.tuple #[.int .i64 (a * b),.bool true])∧w=w')
 have H:=Lib.hid (numW_ok h)
 clear ha hb h
 go_enter Tryz.func89,Tryz.ntmps89
 go_wp2_with (first | (go_at_call 109;(with_reducible refine (HP.out _).mono ?_);rintro e w' ⟨rfl,rfl⟩))
 go_returns
 exact ⟨.ok (x:=intV (a * b)) (H.out) rfl,bel1 _ _⟩
theorem num_mul_no (w:World) (a b:Int) (ha:I64 a) (hb:I64 b) (h:¬ I64 (a * b)):Calls Tryz.prog 89 #[.int .i64 20,.int .i64 a,.int .i64 b] w fun e w'=>NumRet e (numW (a * b))∧Below w.heap.size w w':=by
 have HP:=Lib.hid (fun w=>(times_any w a b ha hb).mono (fun e w' q=>by
  obtain ⟨⟨n,he,-,hn⟩,hw⟩:=q
  rw [fitI_no h] at he
  exact ⟨⟨n,he⟩,hw⟩):∀ w,Calls Tryz.prog 109 #[.int .i64 a,.int .i64 b] w fun e w'=>(∃ n,e=.returned (.tuple #[.int .i64 n,.bool false]))∧w=w')
 have H:=Lib.hid (numW_no h)
 clear ha hb h
 go_enter Tryz.func89,Tryz.ntmps89
 go_wp2_with (first | (go_at_call 109;(with_reducible refine (HP.out _).mono ?_);rintro e w' ⟨⟨n,rfl⟩,rfl⟩))
 go_returns
 exact ⟨.err (H.out) rfl,bel1 _ _⟩
theorem num_sub19_ok (w:World) (a b:Int) (ha:I64 a) (hb:I64 b) (hm:b ≠ -9223372036854775808) (h:I64 (a - b)):Calls Tryz.prog 89 #[.int .i64 19,.int .i64 a,.int .i64 b] w fun e w'=>NumRet e (numW (a - b))∧Below w.heap.size w w':=by
 have HP:=Lib.hid (fun w=>plus_ok w a (-b) ha (by unfold I64 at hb ⊢;omega) (by rw [← Int.sub_eq_add_neg];exact h))
 have H:=Lib.hid (show numW (a - b)=.ok (intV (a+-b)) by rw [← Int.sub_eq_add_neg];exact numW_ok h)
 have c2:(b == -9223372036854775808)=false:=by simpa using hm
 have b1:-9223372036854775807≤b:=by have:=hb.1;omega
 have b2:=hb.2
 clear ha hb h hm
 go_enter Tryz.func89,Tryz.ntmps89
 go_wp2_with (first | (go_at_call 108;(with_reducible refine (HP.out _).mono ?_);rintro e w' ⟨rfl,rfl⟩))
 go_returns
 exact ⟨.ok (x:=intV (a+-b)) (H.out) rfl,bel1 _ _⟩
theorem num_sub19_no (w:World) (a b:Int) (ha:I64 a) (hb:I64 b) (hm:b ≠ -9223372036854775808) (h:¬ I64 (a - b)):Calls Tryz.prog 89 #[.int .i64 19,.int .i64 a,.int .i64 b] w fun e w'=>NumRet e (numW (a - b))∧Below w.heap.size w w':=by
 have HP:=Lib.hid (fun w=>plus_no w a (-b) ha (by unfold I64 at hb ⊢;omega) (by rw [← Int.sub_eq_add_neg];exact h))
 have H:=Lib.hid (numW_no h)
 have c2:(b == -9223372036854775808)=false:=by simpa using hm
 have b1:-9223372036854775807≤b:=by have:=hb.1;omega
 have b2:=hb.2
 clear ha hb h hm
 go_enter Tryz.func89,Tryz.ntmps89
 go_wp2_with (first | (go_at_call 108;(with_reducible refine (HP.out _).mono ?_);rintro e w' ⟨rfl,rfl⟩))
 go_returns
 exact ⟨.err (H.out) rfl,bel1 _ _⟩
theorem num_sub19_min (w:World) (a:Int) (ha:I64 a):Calls Tryz.prog 89 #[.int .i64 19,.int .i64 a,.int .i64 (-9223372036854775808)] w fun e w'=>NumRet e (numW (a - -9223372036854775808))∧Below w.heap.size w w':=by
 have a1:=ha.1
 have a2:=ha.2
 rcases Int.lt_trichotomy a 0 with c | c | c
 · have HP:=Lib.hid (fun w=>plus_ok w a 9223372036854775807 ha ⟨by decide,by decide⟩ (by unfold I64;omega))
   have HQ:=Lib.hid (fun w=>plus_ok w (a+9223372036854775807) 1 (by unfold I64;omega) ⟨by decide,by decide⟩ (by unfold I64;omega))
   have HS:=Lib.hid (fun w=>plus_ok w (a+1) 9223372036854775807 (by unfold I64;omega) ⟨by decide,by decide⟩ (by unfold I64;omega))
   have H:=Lib.hid (show numW (a - -9223372036854775808)=.ok (intV (a+1+9223372036854775807)) by rw [show a - -9223372036854775808=a+1+9223372036854775807 by omega];exact numW_ok (by unfold I64;omega))
   clear ha
   go_enter Tryz.func89,Tryz.ntmps89
   go_wp2_with (first | (go_at_call 108;(with_reducible refine (HP.out _).mono ?_);rintro e w' ⟨rfl,rfl⟩) | (go_at_call 108;(with_reducible refine (HQ.out _).mono ?_);rintro e w' ⟨rfl,rfl⟩) | (go_at_call 108;(with_reducible refine (HS.out _).mono ?_);rintro e w' ⟨rfl,rfl⟩))
   go_returns
   exact ⟨.ok (x:=intV (a+1+9223372036854775807)) (H.out) rfl,bel1 _ _⟩
 · subst c
   have HP:=Lib.hid (fun w=>plus_ok w 0 9223372036854775807 ha ⟨by decide,by decide⟩ (by unfold I64;omega))
   have HQ:=Lib.hid (fun w=>plus_no w (0+9223372036854775807) 1 (by unfold I64;omega) ⟨by decide,by decide⟩ (by unfold I64;omega))
   have HQ':=Lib.hid (fun w=>plus_no w 9223372036854775807 1 (by unfold I64;omega) ⟨by decide,by decide⟩ (by unfold I64;omega))
   have H:=Lib.hid (show numW (0 - -9223372036854775808)=.error 111 from numW_no (by unfold I64;omega))
   clear ha
   go_enter Tryz.func89,Tryz.ntmps89
   go_wp2_with (first | (go_at_call 108;(with_reducible refine (HP.out _).mono ?_);rintro e w' ⟨rfl,rfl⟩) | (go_at_call 108;(with_reducible refine (HQ.out _).mono ?_);rintro e w' ⟨rfl,rfl⟩) | (go_at_call 108;(with_reducible refine (HQ'.out _).mono ?_);rintro e w' ⟨rfl,rfl⟩))
   go_returns
   exact ⟨.err (H.out) rfl,bel1 _ _⟩
 · have HP:=Lib.hid (fun w=>plus_no w a 9223372036854775807 ha ⟨by decide,by decide⟩ (by unfold I64;omega))
   have c2:¬ a < 0:=by omega
   have H:=Lib.hid (show numW (a - -9223372036854775808)=.error 111 from numW_no (by unfold I64;omega))
   clear ha
   go_enter Tryz.func89,Tryz.ntmps89
   go_wp2_with (first | (go_at_call 108;(with_reducible refine (HP.out _).mono ?_);rintro e w' ⟨rfl,rfl⟩))
   go_returns
   exact ⟨.err (H.out) rfl,bel1 _ _⟩
theorem num_sub19 (w:World) (a b:Int) (ha:I64 a) (hb:I64 b):Calls Tryz.prog 89 #[.int .i64 19,.int .i64 a,.int .i64 b] w fun e w'=>NumRet e (numW (a - b))∧Below w.heap.size w w':=by
 by_cases hm:b=-9223372036854775808
 · subst hm;exact num_sub19_min w a ha
 · by_cases h:I64 (a - b)
   · exact num_sub19_ok w a b ha hb hm h
   · exact num_sub19_no w a b ha hb hm h
theorem num_sub7_ok (w:World) (a b:Int) (ha:I64 a) (hb:I64 b) (hm:b ≠ -9223372036854775808) (h:I64 (a - b)):Calls Tryz.prog 89 #[.int .i64 7,.int .i64 a,.int .i64 b] w fun e w'=>NumRet e (numW (a - b))∧Below w.heap.size w w':=by
 have HP:=Lib.hid (fun w=>plus_ok w a (-b) ha (by unfold I64 at hb ⊢;omega) (by rw [← Int.sub_eq_add_neg];exact h))
 have H:=Lib.hid (show numW (a - b)=.ok (intV (a+-b)) by rw [← Int.sub_eq_add_neg];exact numW_ok h)
 have c2:(b == -9223372036854775808)=false:=by simpa using hm
 have b1:-9223372036854775807≤b:=by have:=hb.1;omega
 have b2:=hb.2
 clear ha hb h hm
 go_enter Tryz.func89,Tryz.ntmps89
 go_wp2_with (first | (go_at_call 108;(with_reducible refine (HP.out _).mono ?_);rintro e w' ⟨rfl,rfl⟩))
 go_returns
 exact ⟨.ok (x:=intV (a+-b)) (H.out) rfl,bel1 _ _⟩
theorem num_sub7_no (w:World) (a b:Int) (ha:I64 a) (hb:I64 b) (hm:b ≠ -9223372036854775808) (h:¬ I64 (a - b)):Calls Tryz.prog 89 #[.int .i64 7,.int .i64 a,.int .i64 b] w fun e w'=>NumRet e (numW (a - b))∧Below w.heap.size w w':=by
 have HP:=Lib.hid (fun w=>plus_no w a (-b) ha (by unfold I64 at hb ⊢;omega) (by rw [← Int.sub_eq_add_neg];exact h))
 have H:=Lib.hid (numW_no h)
 have c2:(b == -9223372036854775808)=false:=by simpa using hm
 have b1:-9223372036854775807≤b:=by have:=hb.1;omega
 have b2:=hb.2
 clear ha hb h hm
 go_enter Tryz.func89,Tryz.ntmps89
 go_wp2_with (first | (go_at_call 108;(with_reducible refine (HP.out _).mono ?_);rintro e w' ⟨rfl,rfl⟩))
 go_returns
 exact ⟨.err (H.out) rfl,bel1 _ _⟩
theorem num_sub7_min (w:World) (a:Int) (ha:I64 a):Calls Tryz.prog 89 #[.int .i64 7,.int .i64 a,.int .i64 (-9223372036854775808)] w fun e w'=>NumRet e (numW (a - -9223372036854775808))∧Below w.heap.size w w':=by
 have a1:=ha.1
 have a2:=ha.2
 rcases Int.lt_trichotomy a 0 with c | c | c
 · have HP:=Lib.hid (fun w=>plus_ok w a 9223372036854775807 ha ⟨by decide,by decide⟩ (by unfold I64;omega))
   have HQ:=Lib.hid (fun w=>plus_ok w (a+9223372036854775807) 1 (by unfold I64;omega) ⟨by decide,by decide⟩ (by unfold I64;omega))
   have HS:=Lib.hid (fun w=>plus_ok w (a+1) 9223372036854775807 (by unfold I64;omega) ⟨by decide,by decide⟩ (by unfold I64;omega))
   have H:=Lib.hid (show numW (a - -9223372036854775808)=.ok (intV (a+1+9223372036854775807)) by rw [show a - -9223372036854775808=a+1+9223372036854775807 by omega];exact numW_ok (by unfold I64;omega))
   clear ha
   go_enter Tryz.func89,Tryz.ntmps89
   go_wp2_with (first | (go_at_call 108;(with_reducible refine (HP.out _).mono ?_);rintro e w' ⟨rfl,rfl⟩) | (go_at_call 108;(with_reducible refine (HQ.out _).mono ?_);rintro e w' ⟨rfl,rfl⟩) | (go_at_call 108;(with_reducible refine (HS.out _).mono ?_);rintro e w' ⟨rfl,rfl⟩))
   go_returns
   exact ⟨.ok (x:=intV (a+1+9223372036854775807)) (H.out) rfl,bel1 _ _⟩
 · subst c
   have HP:=Lib.hid (fun w=>plus_ok w 0 9223372036854775807 ha ⟨by decide,by decide⟩ (by unfold I64;omega))
   have HQ:=Lib.hid (fun w=>plus_no w (0+9223372036854775807) 1 (by unfold I64;omega) ⟨by decide,by decide⟩ (by unfold I64;omega))
   have HQ':=Lib.hid (fun w=>plus_no w 9223372036854775807 1 (by unfold I64;omega) ⟨by decide,by decide⟩ (by unfold I64;omega))
   have H:=Lib.hid (show numW (0 - -9223372036854775808)=.error 111 from numW_no (by unfold I64;omega))
   clear ha
   go_enter Tryz.func89,Tryz.ntmps89
   go_wp2_with (first | (go_at_call 108;(with_reducible refine (HP.out _).mono ?_);rintro e w' ⟨rfl,rfl⟩) | (go_at_call 108;(with_reducible refine (HQ.out _).mono ?_);rintro e w' ⟨rfl,rfl⟩) | (go_at_call 108;(with_reducible refine (HQ'.out _).mono ?_);rintro e w' ⟨rfl,rfl⟩))
   go_returns
   exact ⟨.err (H.out) rfl,bel1 _ _⟩
 · have HP:=Lib.hid (fun w=>plus_no w a 9223372036854775807 ha ⟨by decide,by decide⟩ (by unfold I64;omega))
   have c2:¬ a < 0:=by omega
   have H:=Lib.hid (show numW (a - -9223372036854775808)=.error 111 from numW_no (by unfold I64;omega))
   clear ha
   go_enter Tryz.func89,Tryz.ntmps89
   go_wp2_with (first | (go_at_call 108;(with_reducible refine (HP.out _).mono ?_);rintro e w' ⟨rfl,rfl⟩))
   go_returns
   exact ⟨.err (H.out) rfl,bel1 _ _⟩
theorem num_sub7 (w:World) (a b:Int) (ha:I64 a) (hb:I64 b):Calls Tryz.prog 89 #[.int .i64 7,.int .i64 a,.int .i64 b] w fun e w'=>NumRet e (numW (a - b))∧Below w.heap.size w w':=by
 by_cases hm:b=-9223372036854775808
 · subst hm;exact num_sub7_min w a ha
 · by_cases h:I64 (a - b)
   · exact num_sub7_ok w a b ha hb hm h
   · exact num_sub7_no w a b ha hb hm h
theorem num_quo21 (w:World) (a b:Int) (ha:I64 a) (hb:I64 b):Calls Tryz.prog 89 #[.int .i64 21,.int .i64 a,.int .i64 b] w fun e w'=>NumRet e (quotW 21 a b)∧Below w.heap.size w w':=by
 by_cases h0:b=0
 · subst h0
   have H:=Lib.hid (show quotW 21 a 0=.error 112 by unfold quotW;rw [if_pos rfl])
   clear ha hb
   go_enter Tryz.func89,Tryz.ntmps89
   go_wp2
   go_returns
   exact ⟨.err (H.out) rfl,bel1 _ _⟩
 have c0:(b == 0)=false:=by simpa using h0
 by_cases hx:a=-9223372036854775808∧b=-1
 · obtain ⟨rfl,rfl⟩:=hx
   have H:=Lib.hid (show quotW 21 (-9223372036854775808) (-1)=.error 111 by unfold quotW numW;rw [if_neg (by decide),if_neg (by decide),if_neg (by decide)])
   clear ha hb h0
   go_enter Tryz.func89,Tryz.ntmps89
   go_wp2
   go_returns
   exact ⟨.err (H.out) rfl,bel1 _ _⟩
 have hq:I64 (a.tdiv b):=by
  by_cases h1:b=-1
  · subst h1
    rw [Int.tdiv_neg,Int.tdiv_one]
    unfold I64 at ha ⊢
    omega
  · exact (quot_in ha hb h0 h1).1
 have hr:a - a.tdiv b * b=a.tmod b:=by have:=rest_mul a b;omega
 have hm:I64 (a.tdiv b * b):=quot_mul_in ha
 have hrr:I64 (a.tmod b):=by
  by_cases h1:b=-1
  · subst h1
    rw [Int.tmod_neg,Int.tmod_one]
    exact ⟨by decide,by decide⟩
  · exact (quot_in ha hb h0 h1).2
 have cx:(a == -9223372036854775808 && b == -1)=false:=by
  cases e:(a == -9223372036854775808) <;> simp_all
 have H:=Lib.hid (show quotW 21 a b=.ok (intV (a.tdiv b)) by unfold quotW;rw [if_neg h0];rw [if_neg (by decide),numW_ok hq])
 have HQ:=Lib.hid hq
 have HM:=Lib.hid hm
 have HR:=Lib.hid hr
 have HRR:=Lib.hid hrr
 have hq1:=wrap_in hq
 have hm1:=wrap_in hm
 have hr1:=wrap_in hrr
 clear hq hm hr hrr ha hb
 cases e1:(a == -9223372036854775808)
 · clear cx hx
   go_enter Tryz.func89,Tryz.ntmps89
   go_wp2
   go_returns
   exact ⟨.ok (x:=intV (a.tdiv b)) (H.out) rfl,bel1 _ _⟩
 · have e2:(b == -1)=false:=by simpa [e1] using cx
   clear cx hx
   go_enter Tryz.func89,Tryz.ntmps89
   go_wp2
   go_returns
   exact ⟨.ok (x:=intV (a.tdiv b)) (H.out) rfl,bel1 _ _⟩
theorem num_quo22 (w:World) (a b:Int) (ha:I64 a) (hb:I64 b):Calls Tryz.prog 89 #[.int .i64 22,.int .i64 a,.int .i64 b] w fun e w'=>NumRet e (quotW 22 a b)∧Below w.heap.size w w':=by
 by_cases h0:b=0
 · subst h0
   have H:=Lib.hid (show quotW 22 a 0=.error 112 by unfold quotW;rw [if_pos rfl])
   clear ha hb
   go_enter Tryz.func89,Tryz.ntmps89
   go_wp2
   go_returns
   exact ⟨.err (H.out) rfl,bel1 _ _⟩
 have c0:(b == 0)=false:=by simpa using h0
 by_cases hx:a=-9223372036854775808∧b=-1
 · obtain ⟨rfl,rfl⟩:=hx
   have H:=Lib.hid (show quotW 22 (-9223372036854775808) (-1)=.ok (intV 0) by unfold quotW;rw [if_neg (by decide),if_pos rfl];rfl)
   clear ha hb h0
   go_enter Tryz.func89,Tryz.ntmps89
   go_wp2
   go_returns
   exact ⟨.ok (x:=intV (0)) (H.out) rfl,bel1 _ _⟩
 have hq:I64 (a.tdiv b):=by
  by_cases h1:b=-1
  · subst h1
    rw [Int.tdiv_neg,Int.tdiv_one]
    unfold I64 at ha ⊢
    omega
  · exact (quot_in ha hb h0 h1).1
 have hr:a - a.tdiv b * b=a.tmod b:=by have:=rest_mul a b;omega
 have hm:I64 (a.tdiv b * b):=quot_mul_in ha
 have hrr:I64 (a.tmod b):=by
  by_cases h1:b=-1
  · subst h1
    rw [Int.tmod_neg,Int.tmod_one]
    exact ⟨by decide,by decide⟩
  · exact (quot_in ha hb h0 h1).2
 have cx:(a == -9223372036854775808 && b == -1)=false:=by
  cases e:(a == -9223372036854775808) <;> simp_all
 have H:=Lib.hid (show quotW 22 a b=.ok (intV (a.tmod b)) by unfold quotW;rw [if_neg h0];rw [if_pos rfl])
 have HQ:=Lib.hid hq
 have HM:=Lib.hid hm
 have HR:=Lib.hid hr
 have HRR:=Lib.hid hrr
 have hq1:=wrap_in hq
 have hm1:=wrap_in hm
 have hr1:=wrap_in hrr
 clear hq hm hrr ha hb
 cases e1:(a == -9223372036854775808)
 · clear cx hx
   go_enter Tryz.func89,Tryz.ntmps89
   go_wp2
   go_returns
   exact ⟨.ok (x:=intV (a.tmod b)) (H.out) rfl,bel1 _ _⟩
 · have e2:(b == -1)=false:=by simpa [e1] using cx
   clear cx hx
   go_enter Tryz.func89,Tryz.ntmps89
   go_wp2
   go_returns
   exact ⟨.ok (x:=intV (a.tmod b)) (H.out) rfl,bel1 _ _⟩
/-- A value that is told: readable in the elder world, or new. -/
def RV (w0 w':World) (B:Nat) (v:Value) (x:Vl):Prop:=∃ a l c,v=VA x a l c∧(RZ w0 a l c x.ss∨SV w' B (VA x a l c) x)
theorem rz_nil1 (w:World):RZ w none 0 0 []:=⟨rs_nil1 w,fun _=>rfl⟩
theorem boolean_any (w:World) (t:Bool):Calls Tryz.prog 60 #[.bool t] w fun e w'=>e=.returned (VA (truthV t) none 0 0)∧Below w.heap.size w w':=by
 cases t
 · go_enter Tryz.func60,Tryz.ntmps60
   go_wp2
   go_returns
   exact ⟨rfl,bel1 _ _⟩
 · go_enter Tryz.func60,Tryz.ntmps60
   go_wp2
   go_returns
   exact ⟨rfl,bel1 _ _⟩
def seenE (x:Vl):Int:=if rightV x=0 then 0 else 8
theorem seen_any (w:World) (x:Vl) (a:Option Addr) (l c:Nat) (hx:RS 1 Sv w a l c x.ss) :
 Calls Tryz.prog 58 #[VA x a l c] w fun e w'=>e=.returned (.tuple #[VA x a l c,.int .i64 (seenE x)])∧Below w.heap.size w w':=by
 obtain ⟨w2,hw2⟩:∃ w2,w2=(w.alloc (boxS x a l c)).alloc boxZ:=⟨_,rfl⟩
 have g0:w2.heap[w.heap.size]?=some (boxS x a l c):=by rw [hw2];exact heap_alloc2_old w _ _
 have g1:w2.heap[w.heap.size+1]?=some boxZ:=by rw [hw2];exact heap_alloc2_new w _ _
 have hb2:Below w.heap.size w w2:=by rw [hw2];exact bel2 _ _ _
 have z2:w2.heap.size=w.heap.size+2:=by rw [hw2];simp
 have HB2:=Lib.hid hb2
 have HX:=Lib.hid (hx.below hb2)
 have G0:=Lib.hid g0
 have G1:=Lib.hid g1
 obtain ⟨c0,c1,c2,c3,-⟩:=box4 g0
 have z01:w.heap.size < w2.heap.size:=by omega
 have z02:w.heap.size+1 < w2.heap.size:=by omega
 clear hx g0 g1 hb2 z2
 go_enter Tryz.func58,Tryz.ntmps58
 go_upto_region 1 with (fail)
 rw [← hw2]
 clear hw2
 go_wp2_with fail
 with_reducible refine (refright_any w2 x a l c HX.out).mono ?_
 rintro e w3 ⟨rfl,hb3⟩
 have HB3:=Lib.hid (HB2.out.trans (hb3.mono (by omega)))
 have G13:=Lib.hid ((hb3.block _ z02).trans G1.out)
 have G03:=Lib.hid ((hb3.block _ z01).trans G0.out)
 clear hb3 c0 c1 c2 c3
 obtain ⟨c0,c1,c2,c3,-⟩:=box4 G03.out
 obtain ⟨d0,d1,d2,d3,f0,f1,f2,f3⟩:=box4 G13.out
 cases er:(rightV x != 0)
 · have HE:=Lib.hid (show seenE x=0 by unfold seenE;rw [if_pos (by simpa using er)])
   go_wp2_with fail
   refine bodyPost_ret (res2c Tryz.results58 _ _ (w.heap.size+1) _ _ _ _ _ (heap_box G13.out _ _ _ _) rfl rfl) rfl ?_
   exact ⟨by rw [HE.out];rfl,below_box (by omega) HB3.out _ _ _ _⟩
 · have HE:=Lib.hid (show seenE x=8 by unfold seenE;rw [if_neg (by simpa using er)])
   go_wp2_with fail
   refine bodyPost_ret (res2c Tryz.results58 _ _ (w.heap.size+1) _ _ _ _ _ (heap_box G13.out _ _ _ _) rfl rfl) rfl ?_
   exact ⟨by rw [HE.out];rfl,below_box (by omega) HB3.out _ _ _ _⟩
abbrev boxR (p:Pd):Obj:=.cells p.cs 65
def aloneW (op:Int) (x:Vl):Wr:=if op=7 then numW (0 - x.n) else if op=8 then .ok (truthV (x.n == 0)) else .ok (intV (x.t.size+x.ss.length))
theorem alone7_any (w:World) (x:Vl) (a:Option Addr) (l c:Nat) (hx:RS 1 Sv w a l c x.ss) (hn:I64 x.n) (hts:x.t.size+l≤281474976710656) :
 Calls Tryz.prog 75 #[.int .i64 7,VA x a l c] w fun e w'=>NumRet e (aloneW 7 x)∧Below w.heap.size w w':=by
 obtain ⟨w2,hw2⟩:∃ w2,w2=(w.alloc (boxS x a l c)).alloc boxZ:=⟨_,rfl⟩
 have g0:w2.heap[w.heap.size]?=some (boxS x a l c):=by rw [hw2];exact heap_alloc2_old w _ _
 have g1:w2.heap[w.heap.size+1]?=some boxZ:=by rw [hw2];exact heap_alloc2_new w _ _
 have hb2:Below w.heap.size w w2:=by rw [hw2];exact bel2 _ _ _
 have z2:w2.heap.size=w.heap.size+2:=by rw [hw2];simp
 have HB2:=Lib.hid hb2
 have HL:=Lib.hid hx.1
 have HN:=Lib.hid hn
 have G0:=Lib.hid g0
 have G1:=Lib.hid g1
 obtain ⟨c0,c1,c2,c3,-⟩:=box4 g0
 have z01:w.heap.size < w2.heap.size:=by omega
 have z02:w.heap.size+1 < w2.heap.size:=by omega
 clear hx g0 g1 hb2 z2 hn
 go_enter Tryz.func75,Tryz.ntmps75
 go_upto_region 1 with (fail)
 rw [← hw2]
 clear hw2
 go_wp2_with fail
 with_reducible refine (num_sub7 w2 0 x.n ⟨by decide,by decide⟩ HN.out).mono ?_
 rintro e w3 ⟨hr,hb3⟩
 have HB3:=Lib.hid (HB2.out.trans (hb3.mono (by omega)))
 have G13:=Lib.hid ((hb3.block _ z02).trans G1.out)
 have HA:=Lib.hid (show aloneW 7 x=numW (0 - x.n) from rfl)
 obtain ⟨d0,d1,d2,d3,f0,f1,f2,f3⟩:=box4 G13.out
 clear hb3 c0 c1 c2 c3
 unfold NumRet at hr
 cases hq:numW (0 - x.n) with
 | ok y =>
   rw [hq] at hr
   have HQ:=Lib.hid hq
   subst hr
   clear hq
   go_wp2_with fail
   refine bodyPost_ret (res2c Tryz.results75 _ _ (w.heap.size+1) _ _ _ _ _ (heap_box G13.out _ _ _ _) rfl rfl) rfl ?_
   exact ⟨.ok (x:=y) (by rw [HA.out,HQ.out]) rfl,below_box (by omega) HB3.out _ _ _ _⟩
 | error er =>
   rw [hq] at hr
   have HQ:=Lib.hid hq
   subst hr
   clear hq
   go_wp2_with fail
   refine bodyPost_ret (res2c Tryz.results75 _ _ (w.heap.size+1) _ _ _ _ _ (heap_box G13.out _ _ _ _) rfl rfl) rfl ?_
   exact ⟨.err (er:=er) (by rw [HA.out,HQ.out]) rfl,below_box (by omega) HB3.out _ _ _ _⟩
theorem alone8_any (w:World) (x:Vl) (a:Option Addr) (l c:Nat) (hx:RS 1 Sv w a l c x.ss) (hn:I64 x.n) (hts:x.t.size+l≤281474976710656) :
 Calls Tryz.prog 75 #[.int .i64 8,VA x a l c] w fun e w'=>NumRet e (aloneW 8 x)∧Below w.heap.size w w':=by
 obtain ⟨w2,hw2⟩:∃ w2,w2=(w.alloc (boxS x a l c)).alloc boxZ:=⟨_,rfl⟩
 have g0:w2.heap[w.heap.size]?=some (boxS x a l c):=by rw [hw2];exact heap_alloc2_old w _ _
 have g1:w2.heap[w.heap.size+1]?=some boxZ:=by rw [hw2];exact heap_alloc2_new w _ _
 have hb2:Below w.heap.size w w2:=by rw [hw2];exact bel2 _ _ _
 have z2:w2.heap.size=w.heap.size+2:=by rw [hw2];simp
 have HB2:=Lib.hid hb2
 have HL:=Lib.hid hx.1
 have HN:=Lib.hid hn
 have G0:=Lib.hid g0
 have G1:=Lib.hid g1
 obtain ⟨c0,c1,c2,c3,-⟩:=box4 g0
 have z01:w.heap.size < w2.heap.size:=by omega
 have z02:w.heap.size+1 < w2.heap.size:=by omega
 clear hx g0 g1 hb2 z2 hn
 go_enter Tryz.func75,Tryz.ntmps75
 go_upto_region 1 with (fail)
 rw [← hw2]
 clear hw2
 go_wp2_with fail
 with_reducible refine (boolean_any w2 (x.n == 0)).mono ?_
 rintro e w3 ⟨rfl,hb3⟩
 have HB3:=Lib.hid (HB2.out.trans (hb3.mono (by omega)))
 have G13:=Lib.hid ((hb3.block _ z02).trans G1.out)
 obtain ⟨d0,d1,d2,d3,f0,f1,f2,f3⟩:=box4 G13.out
 clear hb3 c0 c1 c2 c3
 go_wp2_with fail
 refine bodyPost_ret (res2c Tryz.results75 _ _ (w.heap.size+1) _ _ _ _ _ (heap_box G13.out _ _ _ _) rfl rfl) rfl ?_
 exact ⟨.ok (x:=truthV (x.n == 0)) rfl rfl,below_box (by omega) HB3.out _ _ _ _⟩
theorem alone27_any (w:World) (x:Vl) (a:Option Addr) (l c:Nat) (hx:RS 1 Sv w a l c x.ss) (hn:I64 x.n) (hts:x.t.size+l≤281474976710656) :
 Calls Tryz.prog 75 #[.int .i64 27,VA x a l c] w fun e w'=>NumRet e (aloneW 27 x)∧Below w.heap.size w w':=by
 obtain ⟨w2,hw2⟩:∃ w2,w2=(w.alloc (boxS x a l c)).alloc boxZ:=⟨_,rfl⟩
 have g0:w2.heap[w.heap.size]?=some (boxS x a l c):=by rw [hw2];exact heap_alloc2_old w _ _
 have g1:w2.heap[w.heap.size+1]?=some boxZ:=by rw [hw2];exact heap_alloc2_new w _ _
 have hb2:Below w.heap.size w w2:=by rw [hw2];exact bel2 _ _ _
 have z2:w2.heap.size=w.heap.size+2:=by rw [hw2];simp
 have HB2:=Lib.hid hb2
 have HL:=Lib.hid hx.1
 have HN:=Lib.hid hn
 have G0:=Lib.hid g0
 have G1:=Lib.hid g1
 obtain ⟨c0,c1,c2,c3,-⟩:=box4 g0
 have z01:w.heap.size < w2.heap.size:=by omega
 have z02:w.heap.size+1 < w2.heap.size:=by omega
 clear hx g0 g1 hb2 z2 hn
 go_enter Tryz.func75,Tryz.ntmps75
 go_upto_region 1 with (fail)
 rw [← hw2]
 clear hw2
 obtain ⟨d0,d1,d2,d3,f0,f1,f2,f3⟩:=box4 G1.out
 go_wp2_with fail
 refine bodyPost_ret (res2c Tryz.results75 _ _ (w.heap.size+1) _ _ _ _ _ (heap_box G1.out _ _ _ _) rfl rfl) rfl ?_
 exact ⟨.ok (x:=intV (x.t.size+x.ss.length)) rfl (by rw [HL.out];rfl),below_box (by omega) HB2.out _ _ _ _⟩
theorem SV.setbox {w:World} {B:Nat} {x:Vl} {a:Option Addr} {l c:Nat} {g:Nat} {z0 z1 z2 z3:Value} {t:TypeId} (h:SV w B (VA x a l c) x) (hg:w.heap[g]?=some (.cells #[z0,z1,z2,z3] t (0,0))) (ht:t ≠ 9) (x0 x1 x2 x3:Value) :
 SV ((((w.setCell ⟨g,0,none⟩ x0).setCell ⟨g,1,none⟩ x1).setCell ⟨g,2,none⟩ x2).setCell ⟨g,3,none⟩ x3) B (VA x a l c) x:=by
 obtain ⟨a,l,c,e,hl,h⟩:=h
 refine ⟨a,l,c,e,hl,?_⟩
 rcases h with h | h
 · exact .inl h
 · exact .inr (own_box h (own_ne h hg ht) _ _ _ _)
theorem insS_cut (x:ByteArray):∀ (s:List ByteArray) (k:Nat),k≤s.length→(∀ (i:Nat) (y:ByteArray),i < k→s[i]?=some y→Op.bytesLess y.toList x.toList=true)→(∀ y,s[k]?=some y→Op.bytesLess y.toList x.toList=false) →
 insS x s=if (match s[k]? with | some y=>y.toList == x.toList | none=>false)=true then s else s.take k++x :: s.drop k
 | [],k,hk,_,_=>by
   have:k=0:=by simpa using hk
   subst this
   rfl
 | y :: t,0,_,_,h2=>by
   have:=h2 y rfl
   rw [insS,this]
   simp
 | y :: t,k+1,hk,h1,h2=>by
   have:=h1 0 y (by omega) rfl
   rw [insS,this,if_pos rfl,insS_cut x t k (by simpa using hk) (fun i z hi hz=>h1 (i+1) z (by omega) (by simpa using hz)) (fun z hz=>h2 z (by simpa using hz))]
   rw [List.getElem?_cons_succ]
   generalize (match t[k]? with | some y=>y.toList == x.toList | none=>false)=b
   cases b <;> simp
theorem setOf_snoc (l:List ByteArray) (x:ByteArray):setOf (l++[x])=insS x (setOf l):=by
 unfold setOf
 rw [List.foldl_append]
 rfl
theorem insS_len (x:ByteArray) (s:List ByteArray):(insS x s).length≤s.length+1:=by
 induction s with
 | nil=>simp [insS]
 | cons y t ih =>
   rw [insS]
   split
   · simp;exact ih
   · split <;> simp
theorem ins_len (l:List ByteArray):∀ s:List ByteArray,(l.foldl (fun s x=>insS x s) s).length≤s.length+l.length:=by
 induction l with
 | nil=>intro s;simp
 | cons x t ih =>
   intro s
   have h1:=ih (insS x s)
   have h2:=insS_len x s
   simp only [List.foldl_cons,List.length_cons]
   omega
theorem setOf_len' (l:List ByteArray):(setOf l).length≤l.length:=by
 have:=ins_len l []
 simpa [setOf] using this
theorem RS.atR {α:Type} {s:Nat} {enc:α→List Value} {w:World} {b off n c:Nat} {xs:List α} (h:RS s enc w (some ⟨b,off,none⟩) n c xs) {i:Nat} {x:α} (hx:xs[i]?=some x):∀ j v,(enc x)[j]?=some v→w.cell? ⟨b,off+i * s+j,none⟩=some v:=by
 obtain ⟨b',o',e,hc⟩:=h.2.2.2 i x hx
 cases e
 exact hc
theorem shift_at {s:List ByteArray} {y:ByteArray} {j:Nat} (h0:0 < j) (hj:j≤s.length):(s.take j++y :: s.drop j).set j (s.getD (j - 1) ByteArray.empty)=s.take (j - 1)++s.getD (j - 1) ByteArray.empty :: s.drop (j - 1):=by
 rw [List.set_append_right _ _ (by rw [List.length_take];omega),show j - (s.take j).length=0 by rw [List.length_take];omega,List.set_cons_zero]
 obtain ⟨i,rfl⟩:∃ i,j=i+1:=⟨j - 1,by omega⟩
 rw [Nat.add_sub_cancel]
 have hi:s.getD i ByteArray.empty=s[i]:=by rw [List.getD_eq_getElem?_getD,List.getElem?_eq_getElem (by omega)];rfl
 rw [hi,List.take_succ_eq_append_getElem (show i < s.length by omega),List.drop_eq_getElem_cons (show i < s.length by omega)]
 simp only [List.append_assoc,List.cons_append,List.nil_append]
theorem shift_get {s:List ByteArray} {y:ByteArray} {j:Nat} (h0:0 < j) (hj:j≤s.length):(s.take j++y :: s.drop j)[j - 1]?=some (s.getD (j - 1) ByteArray.empty):=by
 rw [List.getElem?_append_left (by simp;omega),List.getElem?_take_of_lt (by omega),List.getElem?_eq_getElem (by omega),List.getD_eq_getElem?_getD,List.getElem?_eq_getElem (by omega)]
 rfl
theorem row_at {W:World} {B g n c:Nat} {l:List ByteArray} (h:W.ownsRow B 9 1 (.slice (some ⟨g,0,none⟩) n c) n (l.flatMap Sv)) {k:Nat} {x:ByteArray} (hx:l[k]?=some x):W.cell? ⟨g,k,none⟩=some (.string x):=by
 have:=own_at Sv_len h hx 0 _ rfl
 simpa using this
theorem row_set {W:World} {B g n c:Nat} {l:List ByteArray} (h:W.ownsRow B 9 1 (.slice (some ⟨g,0,none⟩) n c) n (l.flatMap Sv)) {k:Nat} (hk:k < n) (x:ByteArray) :
 (W.setCell ⟨g,k,none⟩ (.string x)).ownsRow B 9 1 (.slice (some ⟨g,0,none⟩) n c) n ((l.set k x).flatMap Sv)∧W.grownBy (W.setCell ⟨g,k,none⟩ (.string x)) (some g):=by
 have hl:l.length=n:=by have:=h.1;rw [flat_len Sv 1 Sv_len] at this;omega
 obtain ⟨h1,h2⟩:=own_chain (Sv x) _ W (k * 1) h
 rw [setList_flat Sv 1 Sv_len l k x (by omega)] at h1
 simp only [setChain,Sv,Nat.mul_one] at h1 h2
 exact ⟨h1,h2⟩
theorem refset_any (w:World) (a:Option Addr) (n c:Nat) (l:List ByteArray) (hx:RS 1 Sv w a n c l) (hn:n≤4000000000000) :
 Calls Tryz.prog 74 #[.slice a n c] w fun e w'=>(∃ v,e=.returned (.tuple #[v,.int .i64 (rightV ⟨5,0,ByteArray.empty,setOf l⟩)])∧SV w' w.heap.size v ⟨5,0,ByteArray.empty,setOf l⟩)∧Below w.heap.size w w':=by
 obtain ⟨w1,hw1⟩:∃ w1,w1=w.alloc boxZ:=⟨_,rfl⟩
 have g0:w1.heap[w.heap.size]?=some boxZ:=by rw [hw1];exact heap_alloc_new w _
 have hb1:Below w.heap.size w w1:=by rw [hw1];exact bel1 _ _
 have z1:w1.heap.size=w.heap.size+1:=by rw [hw1];simp
 have HB1:=Lib.hid hb1
 have HX:=Lib.hid (hx.below hb1)
 have HL:=Lib.hid hx.1
 have G0:=Lib.hid g0
 obtain ⟨B,hB⟩:∃ B,B=w1.heap.size:=⟨_,rfl⟩
 have HBB:=Lib.hid hB
 have zB:w.heap.size < B:=by omega
 clear hx g0 hb1 z1 hB
 go_enter Tryz.func74,Tryz.ntmps74
 go_upto_region 1 with (fail)
 rw [← hw1]
 clear hw1
 go_wp2_with fail
 go_loopw [4,5] (fun v i wr=>∃ (k:Nat) (va:Option Addr) (vc:Nat),k≤n∧i=.int .i64 k∧v=.slice va (setOf (l.take k)).length vc∧wr.ownsRow B 9 1 (.slice va (setOf (l.take k)).length vc) (setOf (l.take k)).length ((setOf (l.take k)).flatMap Sv)∧Below B w1 wr) (fun _ i _=>n - (intOf i).toNat)
 case atStart=>exact ⟨0,none,0,by omega,rfl,rfl,World.ownsRow_nil _ _ _ _,Below.refl _ _⟩
 case round =>
  obtain ⟨k,va,vc,hk,rfl,rfl,ho,hb⟩:=hrel
  obtain ⟨s,hs⟩:∃ s,s=setOf (l.take k):=⟨_,rfl⟩
  have hsl:s.length≤k:=by rw [hs];have:=setOf_len' (l.take k);simp at this;omega
  have HS:=Lib.hid hs
  rw [← hs] at ho ⊢
  obtain ⟨N,hN⟩:∃ N,N=s.length:=⟨_,rfl⟩
  rw [← hN] at ho ⊢
  have HN:=Lib.hid hN.symm
  have hNk:N≤k:=by omega
  have HO:=Lib.hid ho
  have HBR:=Lib.hid hb
  have HXR:=Lib.hid (HX.out.below (hb.mono (by have:=HBB.out;omega)))
  clear ho hb hs hN hsl
  by_cases hlt:k < n
  · have hltI:(k:Int) < (n:Int):=by omega
    obtain ⟨nb,no,x,he,hy,-⟩:=HXR.out.at hlt
    subst he
    have n00:w1.cell? ⟨nb,no+k,none⟩=some (.string x):=by have:=RS.atR HX.out hy 0 _ rfl;simpa using this
    have hnb0:=block_lt_of_cell n00
    have n0:wr.cell? ⟨nb,no+k,none⟩=some (.string x):=by have:=RS.atR HXR.out hy 0 _ rfl;simpa using this
    have HTK:=Lib.hid (show setOf (l.take (k+1))=insS x s by rw [List.take_add_one,hy,HS.out];exact setOf_snoc _ _)
    clear hy
    obtain ⟨wo,rfl⟩:∃ wo:World,wo=wr:=⟨_,rfl⟩
    go_wp2_with fail
    have hnb:nb < wo.heap.size:=block_lt_of_cell n0
    have HNB:=Lib.hid hnb0
    have HNW:=Lib.hid n00
    go_loopw [6] (fun j wx=>∃ q:Nat,q≤N∧j=.int .i64 q∧Below wo.heap.size wo wx∧∀ (i:Nat) (y:ByteArray),i < q→s[i]?=some y→Op.bytesLess y.toList x.toList=true) (fun j _=>N - (intOf j).toNat)
    case atStart=>exact ⟨0,by omega,rfl,Below.refl _ _,fun i y hi=>by omega⟩
    case round =>
     obtain ⟨q,hq,rfl,hbw,hlo⟩:=hrel
     have HLO:=Lib.hid hlo
     have HBW:=Lib.hid hbw
     have HOD:=Lib.hid (own_below HO.out hbw)
     have n1:=(hbw.cell (p:=⟨nb,no+k,none⟩) hnb).trans n0
     clear hlo hbw
     by_cases hqn:q < N
     · have hqI:(q:Int) < (N:Int):=by omega
       obtain ⟨y,hy⟩:∃ y,s[q]?=some y:=⟨_,List.getElem?_eq_getElem (by have:=HN.out;omega)⟩
       obtain ⟨g,hva,-,-⟩:=own_addr HOD.out (by omega)
       subst hva
       have s0:=row_at HOD.out hy
       have HYQ:=Lib.hid hy
       clear hy
       cases hless:Op.bytesLess y.toList x.toList
       · have HLE:=Lib.hid hless
         cases heq:(y.toList == x.toList)
         · have HIN:=Lib.hid (show insS x s=s.take q++x :: s.drop q by
            rw [insS_cut x s q (by have:=HN.out;omega) HLO.out (fun z hz=>by rw [HYQ.out] at hz;cases hz;exact HLE.out),HYQ.out]
            simp only [heq]
            rfl)
           clear n0
           go_wp2_with fail
           go_quiet (fail)
           go_wp2_with fail
           go_quiet (fail)
           go_wp2_with (at_builtin;(refine L_appendN rfl _ _ _ rfl sl45 B (.slice (some ⟨g,0,none⟩) N vc) N _ rfl (own_below HOD.out ((below_drewN (Below.refl _ _) _).alloc (by simp) _)) _ 1 1 (Sv { data:=#[] }) rfl rfl (new_str _ _) (by simp [Sv,Value.oneCell']) (by omega) (by simp [maxLen];omega) (by have:=HBR.out.size;have:=HBW.out.size;have:=HBB.out;simp;omega) (fun a6 c6 w6 ho6 hg6 hat6=>?_)
                                    have HO6:=Lib.hid ho6
                                    have HB6:=Lib.hid (((below_drewN (HBR.out.trans (HBW.out.mono (by have:=HBR.out.size;have:=HBB.out;omega))) _).alloc (by have:=HBR.out.size;have:=HBW.out.size;have:=HBB.out;simp;omega) (.cells #[.string { data:=#[] }] 9)).grown hg6 (by have:=HBR.out.size;have:=HBW.out.size;have:=HBB.out;simp;omega) (fun z hz=>(HOD.out.lt z hz).1))
                                    clear ho6 hg6 hat6))
           obtain ⟨g6,ha6,-,-⟩:=own_addr HO6.out (by omega)
           subst ha6
           obtain ⟨wp,rfl⟩:∃ wp:World,wp=wr:=⟨_,rfl⟩
           clear n1 hqI s0
           go_loopw [7] (fun j wx=>∃ (m:Nat) (z:ByteArray),q≤m∧m≤N∧j=.int .i64 m∧wx.ownsRow B 9 1 (.slice (some ⟨g6,0,none⟩) (N+1) c6) (N+1) ((s.take m++z :: s.drop m).flatMap Sv)∧Below B w1 wx) (fun j _=>(intOf j).toNat)
           case atStart=>exact ⟨N,{ data:=#[] },hq,Nat.le_refl _,by go_num,by
            have h:=HO6.out
            rw [List.take_of_length_le (by have:=HN.out;omega),List.drop_eq_nil_of_le (by have:=HN.out;omega),List.flatMap_append]
            exact h,HB6.out⟩
           case round =>
            obtain ⟨m,z,hqm,hmN,rfl,hrow,hbz⟩:=hrel
            have HROW:=Lib.hid hrow
            have HBZ:=Lib.hid hbz
            have n1:=(hbz.cell (p:=⟨nb,no+k,none⟩) (show nb < B by have:=HNB.out;have:=HBB.out;omega)).trans HNW.out
            clear hbz
            by_cases hgt:q < m
            · obtain ⟨p,rfl⟩:∃ p,m=p+1:=⟨m - 1,by omega⟩
              have hpI:(q:Int) < (p:Int)+1:=by omega
              have htp:((p:Int)+1).toNat=p+1:=by omega
              have r0:=row_at hrow (shift_get (s:=s) (y:=z) (j:=p+1) (by omega) (by have:=HN.out;omega))
              have r1:=row_at hrow (show (s.take (p+1)++z :: s.drop (p+1))[p+1]?=some z by rw [List.getElem?_append_right (by rw [List.length_take];omega),show p+1 - (s.take (p+1)).length=0 by rw [List.length_take];have:=HN.out;omega];rfl)
              have f1:=hrow.frozenAt (p+1)
              obtain ⟨hset,hgw⟩:=row_set hrow (k:=p+1) (by omega) (s.getD (p+1 - 1) ByteArray.empty)
              rw [shift_at (by omega) (by have:=HN.out;omega)] at hset
              simp only [Nat.add_sub_cancel] at r0 hset hgw
              generalize s.getD p ByteArray.empty=y' at r0 hset hgw
              have HSET:=Lib.hid hset
              have HBS:=Lib.hid (HBZ.out.grown hgw (by have:=HBZ.out.size;have:=HBB.out;omega) (fun u hu=>by cases hu;exact (HROW.out.lt g6 rfl).1))
              clear hrow hset hgw
              go_wp2_with fail
              go_roundw
              case rel=>exact ⟨p,y',by omega,by omega,by go_num,HSET.out,HBS.out⟩
              case measure=>simp [intOf]
            · obtain rfl:m=q:=by omega
              have hmI:¬ (m:Int) < (m:Int):=by omega
              have r1:=row_at hrow (show (s.take m++z :: s.drop m)[m]?=some z by rw [List.getElem?_append_right (by rw [List.length_take];omega),show m - (s.take m).length=0 by rw [List.length_take];have:=HN.out;omega];rfl)
              have f1:=hrow.frozenAt m
              obtain ⟨hset,hgw⟩:=row_set hrow (k:=m) (by omega) x
              rw [List.set_append_right _ _ (by rw [List.length_take];omega),show m - (s.take m).length=0 by rw [List.length_take];have:=HN.out;omega,List.set_cons_zero] at hset
              have HSET:=Lib.hid hset
              have HBS:=Lib.hid (HBZ.out.grown hgw (by have:=HBZ.out.size;have:=HBB.out;omega) (fun u hu=>by cases hu;exact (HROW.out.lt g6 rfl).1))
              have HLN:=Lib.hid (show (s.take m++x :: s.drop m).length=N+1 by rw [List.length_append,List.length_cons,List.length_take,List.length_drop];have:=HN.out;omega)
              clear hrow hset hgw
              go_wp2_with fail
              go_roundw
              case rel=>exact ⟨k+1,_,c6,by omega,by go_num,by rw [HTK.out,HIN.out,HLN.out],by rw [HTK.out,HIN.out,HLN.out];exact HSET.out,HBS.out⟩
              case measure=>simp [intOf];omega
         · have HIN:=Lib.hid (show insS x s=s by
            rw [insS_cut x s q (by have:=HN.out;omega) HLO.out (fun z hz=>by rw [HYQ.out] at hz;cases hz;exact HLE.out),HYQ.out]
            simp only [heq]
            rfl)
           clear n0
           go_wp2_with fail
           go_quiet (fail)
           go_wp2_with fail
           go_quiet (fail)
           go_wp2_with fail
           go_roundw
           case rel=>exact ⟨k+1,_,_,by omega,by go_num,by rw [HTK.out,HIN.out,HN.out],by rw [HTK.out,HIN.out,HN.out];exact own_below HOD.out (below_drewN (Below.refl _ _) _),HBR.out.trans ((below_drewN HBW.out _).mono (by have:=HBR.out.size;have:=HBB.out;omega))⟩
           case measure=>simp [intOf];omega
       · have HLE:=Lib.hid hless
         go_wp2_with fail
         go_quiet (fail)
         go_wp2_with fail
         go_roundw
         case rel =>
          refine ⟨q+1,by omega,by go_num,below_drewN HBW.out _,fun i z hi hz=>?_⟩
          by_cases e:i=q
          · subst e
            rw [HYQ.out] at hz
            cases hz
            exact HLE.out
          · exact HLO.out i z (by omega) hz
         case measure=>simp [intOf];omega
     · have hqI:¬ (q:Int) < (N:Int):=by omega
       have HIN:=Lib.hid (show insS x s=s.take q++x :: s.drop q by
        have hqs:s[q]?=none:=List.getElem?_eq_none (by have:=HN.out;omega)
        rw [insS_cut x s q (by have:=HN.out;omega) HLO.out (fun z hz=>by rw [hqs] at hz;cases hz),hqs]
        rfl)
       clear n0
       go_wp2_with fail
       go_quiet (fail)
       go_wp2_with fail
       go_quiet (fail)
       go_wp2_with (at_builtin;(refine L_appendN rfl _ _ _ rfl sl45 B (.slice va N vc) N _ rfl (own_below HOD.out ((below_drewN (Below.refl _ _) _).alloc (by simp) _)) _ 1 1 (Sv { data:=#[] }) rfl rfl (new_str _ _) (by simp [Sv,Value.oneCell']) (by omega) (by simp [maxLen];omega) (by have:=HBR.out.size;have:=HBW.out.size;have:=HBB.out;simp;omega) (fun a6 c6 w6 ho6 hg6 hat6=>?_)
                                have HO6:=Lib.hid ho6
                                have HB6:=Lib.hid (((below_drewN (HBR.out.trans (HBW.out.mono (by have:=HBR.out.size;have:=HBB.out;omega))) _).alloc (by have:=HBR.out.size;have:=HBW.out.size;have:=HBB.out;simp;omega) (.cells #[.string { data:=#[] }] 9)).grown hg6 (by have:=HBR.out.size;have:=HBW.out.size;have:=HBB.out;simp;omega) (fun z hz=>(HOD.out.lt z hz).1))
                                clear ho6 hg6 hat6))
       obtain ⟨g6,ha6,-,-⟩:=own_addr HO6.out (by omega)
       subst ha6
       obtain ⟨wp,rfl⟩:∃ wp:World,wp=wr:=⟨_,rfl⟩
       clear n1 hqI 
       go_loopw [7] (fun j wx=>∃ (m:Nat) (z:ByteArray),q≤m∧m≤N∧j=.int .i64 m∧wx.ownsRow B 9 1 (.slice (some ⟨g6,0,none⟩) (N+1) c6) (N+1) ((s.take m++z :: s.drop m).flatMap Sv)∧Below B w1 wx) (fun j _=>(intOf j).toNat)
       case atStart=>exact ⟨N,{ data:=#[] },hq,Nat.le_refl _,by go_num,by
        have h:=HO6.out
        rw [List.take_of_length_le (by have:=HN.out;omega),List.drop_eq_nil_of_le (by have:=HN.out;omega),List.flatMap_append]
        exact h,HB6.out⟩
       case round =>
        obtain ⟨m,z,hqm,hmN,rfl,hrow,hbz⟩:=hrel
        have HROW:=Lib.hid hrow
        have HBZ:=Lib.hid hbz
        have n1:=(hbz.cell (p:=⟨nb,no+k,none⟩) (show nb < B by have:=HNB.out;have:=HBB.out;omega)).trans HNW.out
        clear hbz
        by_cases hgt:q < m
        · omega
        · obtain rfl:m=q:=by omega
          have hmI:¬ (m:Int) < (m:Int):=by omega
          have r1:=row_at hrow (show (s.take m++z :: s.drop m)[m]?=some z by rw [List.getElem?_append_right (by rw [List.length_take];omega),show m - (s.take m).length=0 by rw [List.length_take];have:=HN.out;omega];rfl)
          have f1:=hrow.frozenAt m
          obtain ⟨hset,hgw⟩:=row_set hrow (k:=m) (by omega) x
          rw [List.set_append_right _ _ (by rw [List.length_take];omega),show m - (s.take m).length=0 by rw [List.length_take];have:=HN.out;omega,List.set_cons_zero] at hset
          have HSET:=Lib.hid hset
          have HBS:=Lib.hid (HBZ.out.grown hgw (by have:=HBZ.out.size;have:=HBB.out;omega) (fun u hu=>by cases hu;exact (HROW.out.lt g6 rfl).1))
          have HLN:=Lib.hid (show (s.take m++x :: s.drop m).length=N+1 by rw [List.length_append,List.length_cons,List.length_take,List.length_drop];have:=HN.out;omega)
          clear hrow hset hgw
          go_wp2_with fail
          go_roundw
          case rel=>exact ⟨k+1,_,c6,by omega,by go_num,by rw [HTK.out,HIN.out,HLN.out],by rw [HTK.out,HIN.out,HLN.out];exact HSET.out,HBS.out⟩
          case measure=>simp [intOf];omega
  · have hltI:¬ (k:Int) < (n:Int):=by omega
    obtain rfl:k=n:=by omega
    have HSL:=Lib.hid (show s=setOf l by rw [HS.out,List.take_of_length_le (by have:=HL.out;omega)])
    go_upto_region 16 with (fail)
    obtain ⟨w8,hw8⟩:∃ w8,w8=wr.alloc (.cells #[.int .i64 5,.int .i64 0,.string { data:=#[] },.slice va N vc] 43):=⟨_,rfl⟩
    have g8:w8.heap[wr.heap.size]?=some (.cells #[.int .i64 5,.int .i64 0,.string ByteArray.empty,.slice va N vc] 43 (0,0)):=by rw [hw8];exact heap_alloc_new wr _
    have hb8:Below wr.heap.size wr w8:=by rw [hw8];exact bel1 _ _
    rw [← hw8]
    clear hw8
    have HBA:=Lib.hid (HB1.out.trans (HBR.out.mono (by omega)))
    have HSV8:=Lib.hid (show SV w8 B (VA (⟨5,0,ByteArray.empty,s⟩:Vl) va N vc) (⟨5,0,ByteArray.empty,s⟩:Vl) from ⟨va,N,vc,rfl,HN.out.symm,.inr (own_below HO.out hb8)⟩)
    have hzr:B≤wr.heap.size:=by have:=HBR.out.size;have:=HBB.out;omega
    have HB8:=Lib.hid (HBA.out.trans (hb8.mono (by omega)))
    have GZ:=Lib.hid ((hb8.block w.heap.size (by omega)).trans ((HBR.out.block w.heap.size zB).trans G0.out))
    have z8:w.heap.size < w8.heap.size:=(Array.getElem?_eq_some_iff.1 GZ.out).1
    obtain ⟨c0,c1,c2,c3,-⟩:=box4 g8
    have HZ8:=Lib.hid (Array.getElem?_eq_some_iff.1 g8).1
    clear g8 hb8
    go_wp2_with fail
    refine wp_region_held_drew (S:=(fun w'=>Below w.heap.size w w'∧w'.cell? ⟨wr.heap.size,0,none⟩=some (.int .i64 5)∧w'.cell? ⟨wr.heap.size,1,none⟩=some (.int .i64 0)∧w'.cell? ⟨wr.heap.size,2,none⟩=some (.string ByteArray.empty)∧w'.cell? ⟨wr.heap.size,3,none⟩=some (.slice va N vc))) (by kernel_rfl) ⟨(HB8.out.trans ((Below.refl _ _).drew.mono HB8.out.size)),c0,c1,c2,c3⟩ (fun hHeld=>?_)
    clear c0 c1 c2 c3
    obtain ⟨wd,hwd⟩:∃ wd,wd=w8.drew:=⟨_,rfl⟩
    have HSVD:=Lib.hid (show SV wd B (VA (⟨5,0,ByteArray.empty,s⟩:Vl) va N vc) (⟨5,0,ByteArray.empty,s⟩:Vl) by rw [hwd];exact HSV8.out.below (Below.refl _ _).drew)
    have GZD:=Lib.hid (show wd.heap[w.heap.size]?=some boxZ by rw [hwd];exact GZ.out)
    rw [← hwd] at hHeld ⊢
    clear hwd
    refine tkI (i:=0) (v:=?_) rfl ?_ ?_
    rotate_left
    · intro w hSw;(try dsimp only at hSw);go_simp;try with_reducible rfl
    (try simp only [Act.put,pa,pb,pc,pd,pe,pf])
    refine tkI (i:=1) (v:=?_) rfl ?_ ?_
    rotate_left
    · intro w hSw;(try dsimp only at hSw);go_simp;try with_reducible rfl
    (try simp only [Act.put,pa,pb,pc,pd,pe,pf])
    refine wpAnyH_ready (rs:=[2]) (by kernel_rfl) (by simp) ?_
    refine AllReadyH.cons (o:=_) rfl (fun K hK=>?_) AllReadyH.nil
    go_simp
    refine (refright_any wd (⟨5,0,ByteArray.empty,s⟩:Vl) va N vc (by rw [show N=s.length from HN.out.symm] at *;exact (HSVD.out.rz (by have:=HN.out;omega)).rs)).mono ?_
    rintro e y1 ⟨rfl,hb⟩
    have GZ1:=Lib.hid ((hb.block _ (Array.getElem?_eq_some_iff.1 GZD.out).1).trans GZD.out)
    have HSV1:=Lib.hid (HSVD.out.below hb)
    refine hK.out _ _ ⟨hHeld.1.trans (hb.mono hHeld.1.size),keepb hb hHeld.2.1,keepb hb hHeld.2.2.1,keepb hb hHeld.2.2.2.1,keepb hb hHeld.2.2.2.2⟩ (fun hHeld=>?_)
    clear hK K hb
    (try simp only [Act.put,pa,pb,pc,pd,pe,pf])
    obtain ⟨d0,d1,d2,d3,f0,f1,f2,f3⟩:=box4 GZ1.out
    have hne:wr.heap.size ≠ w.heap.size:=by omega
    refine wpAnyH_ready (rs:=[3]) (by kernel_rfl) (by simp) ?_
    refine AllReadyH.cons (o:=_) rfl (fun K hK=>?_) AllReadyH.nil
    go_simp
    refine hK.out _ _ ⟨below_box (Nat.le_refl _) hHeld.1 _ _ _ _,keepo hHeld.2.1 hne,keepo hHeld.2.2.1 hne,keepo hHeld.2.2.2.1 hne,keepo hHeld.2.2.2.2 hne⟩ (fun hHeld=>?_)
    clear hK K d0 d1 d2 d3 f0 f1 f2 f3
    (try simp only [Act.put,pa,pb,pc,pd,pe,pf])
    refine tkI (i:=4) (v:=?_) rfl ?_ ?_
    rotate_left
    · intro w hSw;(try dsimp only at hSw);go_simp;try with_reducible rfl
    (try simp only [Act.put,pa,pb,pc,pd,pe,pf])
    refine wpAnyH_done (by kernel_rfl) ?_ _
    go_wp2_with fail
    refine bodyPost_ret (res2c Tryz.results74 _ _ w.heap.size _ _ _ _ _ (heap_box GZ1.out _ _ _ _) rfl rfl) rfl ?_
    have hx:(⟨5,0,ByteArray.empty,s⟩:Vl)=⟨5,0,ByteArray.empty,setOf l⟩:=by rw [HSL.out]
    rw [← hx]
    exact ⟨⟨_,rfl,(SV.setbox HSV1.out GZ1.out (by decide) _ _ _ _).mono (by omega)⟩,hHeld.1⟩
end Go.Proofs.YtcnckjlmldnblaaGreatDoor
