/- Cases 20 to 39 of Mod's value in headgate/headgatelaw06.JournalNone. No condition. -/
import Derived.Test.YtokdiacjcbolfaaDoorUJourA
namespace Go.Proofs.YtokdiacjcbolfaaDoor.F
open Go Go.RowKit Go.Proofs.YtokdiacjcbolfaaDoor.X
set_option maxRecDepth 1000000 in
theorem jour_4 (t : ByteArray) (k : Int) : (jTold t k 20 && jTold t k 21 && jTold t k 22 && jTold t k 23 && jTold t k 24) = true := by kernel_rfl
set_option maxRecDepth 1000000 in
theorem jour_5 (t : ByteArray) (k : Int) : (jTold t k 25 && jTold t k 26 && jTold t k 27 && jTold t k 28 && jTold t k 29) = true := by kernel_rfl
set_option maxRecDepth 1000000 in
theorem jour_6 (t : ByteArray) (k : Int) : (jTold t k 30 && jTold t k 31 && jTold t k 32 && jTold t k 33 && jTold t k 34) = true := by kernel_rfl
set_option maxRecDepth 1000000 in
theorem jour_7 (t : ByteArray) (k : Int) : (jTold t k 35 && jTold t k 36 && jTold t k 37 && jTold t k 38 && jTold t k 39) = true := by kernel_rfl
end Go.Proofs.YtokdiacjcbolfaaDoor.F
