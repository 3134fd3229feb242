import Derived.Test.YtcnckjlmldnblaaGreatDoorK1
import Derived.RegionTactic
import Derived.ChangeAlike
namespace Go.Proofs.YtcnckjlmldnblaaGreatDoor
open Go Go.RowKit
set_option linter.unusedVariables false
def KindOut (e:Ending) (r:(Int × Bool) × Bool):Prop:=e=.returned (.tuple #[.agg #[.int .i64 r.1.1,.bool r.1.2],.bool r.2])
/-- A slice of structs of s cells that can be read in w. -/
def RS {α:Type} (s:Nat) (enc:α→List Value) (w:World) (a:Option Addr) (len cap:Nat) (xs:List α):Prop :=
 xs.length=len∧len≤cap∧len≤281474976710656∧∀ i x,xs[i]?=some x→∃ b off,a=some ⟨b,off,none⟩∧∀ j v,(enc x)[j]?=some v→w.cell? ⟨b,off+i * s+j,none⟩=some v
theorem RS.below {α:Type} {s:Nat} {enc:α→List Value} {w w':World} {a:Option Addr} {len cap:Nat} {xs:List α} (h:RS s enc w a len cap xs) (hb:Below w.heap.size w w'):RS s enc w' a len cap xs:=by
 obtain ⟨h1,h2,h3,h4⟩:=h
 refine ⟨h1,h2,h3,fun i x hx=>?_⟩
 obtain ⟨b,off,e,hc⟩:=h4 i x hx
 exact ⟨b,off,e,fun j v hv=>by rw [hb.cell (World.block_lt_of_cell? w _ (hc j v hv))];exact hc j v hv⟩
theorem RS.at {α:Type} {s:Nat} {enc:α→List Value} {w:World} {a:Option Addr} {len cap:Nat} {xs:List α} (h:RS s enc w a len cap xs) {i:Nat} (hi:i < len) :
 ∃ b off x,a=some ⟨b,off,none⟩∧xs[i]?=some x∧∀ j v,(enc x)[j]?=some v→w.cell? ⟨b,off+i * s+j,none⟩=some v:=by
 obtain ⟨h1,h2,h3,h4⟩:=h
 obtain ⟨b,off,e,hc⟩:=h4 i xs[i] (List.getElem?_eq_getElem (by omega))
 exact ⟨b,off,_,e,List.getElem?_eq_getElem (by omega),hc⟩
structure Row where
 op:Int
 b0:Int
 b1:Int
 is:Int
def Row.cs (r:Row):List Value:=[.int .i64 r.op,.int .i64 r.b0,.int .i64 r.b1,.int .i64 r.is]
end Go.Proofs.YtcnckjlmldnblaaGreatDoor

