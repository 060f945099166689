/- Cases 0 to 19 of Mod's value in headgate/headgatelaw06.JournalNone. No condition. -/
import Derived.Test.YtokdiacjcbolfaaDoorUJourA
namespace Go.Proofs.YtokdiacjcbolfaaDoor.F
open Go Go.RowKit Go.Proofs.YtokdiacjcbolfaaDoor.X
set_option maxRecDepth 1000000 in
theorem jour_0 (t : ByteArray) (k : Int) : (jTold t k 0 && jTold t k 1 && jTold t k 2 && jTold t k 3 && jTold t k 4) = true := by kernel_rfl
set_option maxRecDepth 1000000 in
theorem jour_1 (t : ByteArray) (k : Int) : (jTold t k 5 && jTold t k 6 && jTold t k 7 && jTold t k 8 && jTold t k 9) = true := by kernel_rfl
set_option maxRecDepth 1000000 in
theorem jour_2 (t : ByteArray) (k : Int) : (jTold t k 10 && jTold t k 11 && jTold t k 12 && jTold t k 13 && jTold t k 14) = true := by kernel_rfl
set_option maxRecDepth 1000000 in
theorem jour_3 (t : ByteArray) (k : Int) : (jTold t k 15 && jTold t k 16 && jTold t k 17 && jTold t k 18 && jTold t k 19) = true := by kernel_rfl
end Go.Proofs.YtokdiacjcbolfaaDoor.F
