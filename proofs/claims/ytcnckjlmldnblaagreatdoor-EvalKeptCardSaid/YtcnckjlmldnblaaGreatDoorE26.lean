import Derived.Test.YtcnckjlmldnblaaGreatDoorE25
import Derived.Test.YtcnckjlmldnblaaGreatDoorE21
import Derived.Test.YtcnckjlmldnblaaGreatDoorE21o
import Derived.Test.YtcnckjlmldnblaaGreatDoorE22
import Derived.Test.YtcnckjlmldnblaaGreatDoorE24
import Derived.Test.YtcnckjlmldnblaaGreatDoorE24u
namespace Go.Proofs.YtcnckjlmldnblaaGreatDoor
open Go Go.RowKit
set_option linter.unusedVariables false
set_option linter.unusedSimpArgs false
theorem worth_step (na:Option Addr) (nl nc:Nat) (ns:List Nd) (p:Pd) (hv:VwOk p.vw) (hn:∀ x ∈ ns,x.ks.length=x.kl∧I64 x.vn) (d:Nat) (IH:WorthAt na nl nc ns p d):WorthAt na nl nc ns p (d+1):=by
 intro w r hg hE
 obtain ⟨h0,nd,hnd,hright,hkl,hk⟩:=hg
 obtain ⟨q,rfl⟩:∃ q:Nat,r=q:=⟨r.toNat,by omega⟩
 rw [wK_at hnd]
 rw [Int.toNat_natCast] at hnd
 have hq:q < nl:=by have:=(List.getElem?_eq_some_iff.1 hnd).1;have:=hE.r.1;omega
 by_cases o1:nd.op=1
 · exact w_lit1 na nl nc ns p d IH w q nd hq hnd hright hk hE hv hn o1
 by_cases o2:nd.op=2
 · exact w_lit2 na nl nc ns p d IH w q nd hq hnd hright hk hE hv hn o2
 by_cases o4:nd.op=4
 · exact w_lit4 na nl nc ns p d IH w q nd hq hnd hright hk hE hv hn o4
 by_cases o3:nd.op=3
 · exact w_text na nl nc ns p d IH w q nd hq hnd hright hk hE hv hn o3
 by_cases o5:nd.op=5
 · exact w_name na nl nc ns p d IH w q nd hq hnd hright hk hE hv hn o5
 by_cases o24:nd.op=24
 · exact w_has na nl nc ns p d IH w q nd hq hnd hright hk hE hv hn o24
 by_cases o25:nd.op=25
 · exact w_open na nl nc ns p d IH w q nd hq hnd hright hk hE hv hn o25
 by_cases o26:nd.op=26
 · exact w_reached na nl nc ns p d IH w q nd hq hnd hright hk hE hv hn o26
 by_cases o30:nd.op=30
 · exact w_steps na nl nc ns p d IH w q nd hq hnd hright hk hE hv hn o30
 by_cases o29:nd.op=29
 · exact w_clock na nl nc ns p d IH w q nd hq hnd hright hk hE hv hn o29
 by_cases o9:nd.op=9
 · exact w_and na nl nc ns p d IH w q nd hq hnd hright hk hE hv hn o9
 by_cases o10:nd.op=10
 · exact w_or na nl nc ns p d IH w q nd hq hnd hright hk hE hv hn o10
 by_cases o23:nd.op=23
 · exact w_if na nl nc ns p d IH w q nd hq hnd hright hk hE hv hn o23
 by_cases o33:nd.op=33
 · exact w_default na nl nc ns p d IH w q nd hq hnd hright hk hE hv hn o33
 by_cases o11:nd.op=11
 · exact w_equal11 na nl nc ns p d IH w q nd hq hnd hright hk hE hv hn o11
 by_cases o12:nd.op=12
 · exact w_equal12 na nl nc ns p d IH w q nd hq hnd hright hk hE hv hn o12
 exact w_all na nl nc ns p d IH w q nd hq hnd hright hkl hk hE hv hn ⟨o1,o2,o4,o3,o5,o24,o25,o26,o30,o29,o9,o10,o23,o33,o11,o12⟩
theorem worth_any (na:Option Addr) (nl nc:Nat) (ns:List Nd) (p:Pd) (hv:VwOk p.vw) (hn:∀ x ∈ ns,x.ks.length=x.kl∧I64 x.vn):∀ d,WorthAt na nl nc ns p d
 | 0=>fun _ _ h=>h.elim
 | d+1=>worth_step na nl nc ns p hv hn d (worth_any na nl nc ns p hv hn d)
end Go.Proofs.YtcnckjlmldnblaaGreatDoor
