/- Cases 80 to 99 of Mod's value in headgate/headgatelaw06.JournalNone. No condition. -/
import Derived.Test.YtokdiacjcbolfaaDoorUJourA
namespace Go.Proofs.YtokdiacjcbolfaaDoor.F
open Go Go.RowKit Go.Proofs.YtokdiacjcbolfaaDoor.X
set_option maxRecDepth 1000000 in
theorem jour_16 (t : ByteArray) (k : Int) : (jTold t k 80 && jTold t k 81 && jTold t k 82 && jTold t k 83 && jTold t k 84) = true := by kernel_rfl
set_option maxRecDepth 1000000 in
theorem jour_17 (t : ByteArray) (k : Int) : (jTold t k 85 && jTold t k 86 && jTold t k 87 && jTold t k 88 && jTold t k 89) = true := by kernel_rfl
set_option maxRecDepth 1000000 in
theorem jour_18 (t : ByteArray) (k : Int) : (jTold t k 90 && jTold t k 91 && jTold t k 92 && jTold t k 93 && jTold t k 94) = true := by kernel_rfl
set_option maxRecDepth 1000000 in
theorem jour_19 (t : ByteArray) (k : Int) : (jTold t k 95 && jTold t k 96 && jTold t k 97 && jTold t k 98 && jTold t k 99) = true := by kernel_rfl
end Go.Proofs.YtokdiacjcbolfaaDoor.F
