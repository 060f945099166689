/- Cases 40 to 59 of Mod's value in headgate/headgatelaw06.JournalNone. No condition. -/
import Derived.Test.YtokdiacjcbolfaaDoorUJourA
namespace Go.Proofs.YtokdiacjcbolfaaDoor.F
open Go Go.RowKit Go.Proofs.YtokdiacjcbolfaaDoor.X
set_option maxRecDepth 1000000 in
theorem jour_8 (t : ByteArray) (k : Int) : (jTold t k 40 && jTold t k 41 && jTold t k 42 && jTold t k 43 && jTold t k 44) = true := by kernel_rfl
set_option maxRecDepth 1000000 in
theorem jour_9 (t : ByteArray) (k : Int) : (jTold t k 45 && jTold t k 46 && jTold t k 47 && jTold t k 48 && jTold t k 49) = true := by kernel_rfl
set_option maxRecDepth 1000000 in
theorem jour_10 (t : ByteArray) (k : Int) : (jTold t k 50 && jTold t k 51 && jTold t k 52 && jTold t k 53 && jTold t k 54) = true := by kernel_rfl
set_option maxRecDepth 1000000 in
theorem jour_11 (t : ByteArray) (k : Int) : (jTold t k 55 && jTold t k 56 && jTold t k 57 && jTold t k 58 && jTold t k 59) = true := by kernel_rfl
end Go.Proofs.YtokdiacjcbolfaaDoor.F
