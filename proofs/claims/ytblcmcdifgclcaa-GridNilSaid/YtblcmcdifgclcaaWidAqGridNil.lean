/- GridNil: what its proof leads to. No condition. -/
import Derived.Test.YtblcmcdifgclcaaWMoreqGridNil
namespace Go.Proofs.Ytblcmcdifgclcaa
def markL : List (Int × Int) := [(768, 879), (8203, 8207), (8400, 8447), (65024, 65039), (65056, 65071)]
def wideL : List (Int × Int) := [(4352, 4447), (11904, 12350), (12353, 42191), (44032, 55203), (63744, 64255), (65072, 65135), (65280, 65376), (65504, 65510), (127744, 128591), (129280, 129535), (131072, 262141)]
def inL (r : Int) (l : List (Int × Int)) : Bool := l.any (fun x => decide (x.1 ≤ r) && decide (r ≤ x.2))
def scalarZ (r : Int) : Bool := decide (0 ≤ r ∧ r ≤ 1114111) && !decide (55296 ≤ r ∧ r ≤ 57343)
/-- A rune's width. -/
def wOf (r : Int) : Int := if r < 32 ∨ (127 ≤ r ∧ r ≤ 159) ∨ scalarZ r = false then -1 else if inL r markL = true then 0 else if inL r wideL = true then 2 else 1
end Go.Proofs.Ytblcmcdifgclcaa
