/- What the routes of an answer take from its arcs. -/
import Derived.Test.YtidomjhihfoabaaHIsRoute
namespace Go.Proofs.Ytidomjhihfoabaa.PF
open Go Go.RowKit Go.Lib Go.Proofs.YtidomjhihfoabaaW.PrintWords Go.Proofs.YtidomjhihfoabaaW.PrintLast Go.Proofs.Ytidomjhihfoabaa.Lv
/-- a route takes what it says from each of its arcs -/
def lrSub (m : Int) : List Int → List Int → Option (List Int)
  | [], left => some left
  | i :: is, left => if 0 ≤ i ∧ i < (left.length : Int) ∧ ¬ m > rd left i then lrSub m is (left.set i.toNat (wrap64 (rd left i - m))) else none
def lrAll (n : Int) (l : List S36) (s t : Int) : List S63 → List Int → Int → Option (List Int × Int)
  | [], left, value => some (left, value)
  | r :: rs, left, value => (isRoute n l s t r.f0 r.f1).bind fun p => (lrSub r.f1 r.f0 left).bind fun left2 => lrAll n l s t rs left2 (if p = true then wrap64 (value + r.f1) else value)
end Go.Proofs.Ytidomjhihfoabaa.PF
