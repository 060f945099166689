/- Cases 60 to 79 of Mod's value in headgate/headgatelaw06.JournalNone. No condition. -/
import Derived.Test.YtokdiacjcbolfaaDoorUJourA
namespace Go.Proofs.YtokdiacjcbolfaaDoor.F
open Go Go.RowKit Go.Proofs.YtokdiacjcbolfaaDoor.X
set_option maxRecDepth 1000000 in
theorem jour_12 (t : ByteArray) (k : Int) : (jTold t k 60 && jTold t k 61 && jTold t k 62 && jTold t k 63 && jTold t k 64) = true := by kernel_rfl
set_option maxRecDepth 1000000 in
theorem jour_13 (t : ByteArray) (k : Int) : (jTold t k 65 && jTold t k 66 && jTold t k 67 && jTold t k 68 && jTold t k 69) = true := by kernel_rfl
set_option maxRecDepth 1000000 in
theorem jour_14 (t : ByteArray) (k : Int) : (jTold t k 70 && jTold t k 71 && jTold t k 72 && jTold t k 73 && jTold t k 74) = true := by kernel_rfl
set_option maxRecDepth 1000000 in
theorem jour_15 (t : ByteArray) (k : Int) : (jTold t k 75 && jTold t k 76 && jTold t k 77 && jTold t k 78 && jTold t k 79) = true := by kernel_rfl
end Go.Proofs.YtokdiacjcbolfaaDoor.F
