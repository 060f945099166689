/- The struct types of the functions, as Lean structures. No condition. -/
import Derived.Test.YtokdiacjcbolfaaDoorXTail
import Derived.Test.YtokdiacjcbolfaaDoorProg
namespace Go.Proofs.YtokdiacjcbolfaaDoor.F
open Go Go.RowKit Go.Proofs.YtokdiacjcbolfaaDoor.X
set_option linter.unusedVariables false
set_option linter.unusedSimpArgs false

/-- The table headgate/crc.steps. -/
def G_crc_steps : List Int := [0, 274646895, 549293790, 820201905, 1098587580, 1361435347, 1640403810, 1905808397, 2197175160, 2460548119, 2722870694, 2987750089, 3280807620, 3553878443, 3811616794, 4084100981]
end Go.Proofs.YtokdiacjcbolfaaDoor.F
