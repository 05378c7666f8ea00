/- From a row's listed tables to what the contracts ask of a world ('Tabs'). -/
import Derived.Test.YtjblplflgiibdaaDoorB15
import Derived.Test.YtjblplflgiibdaaDoorRows
import Derived.Stop.LaidErr
import Derived.Lay
import Derived.LaidMore
import Derived.Lib.LaidU8
namespace Go.Proofs.YtjblplflgiibdaaDoor
open Go.Lib
set_option maxRecDepth 100000
theorem pow_type : (Tryd.prog.globals[1]?).map (·.type) = some 121 := by kernel_rfl
def laidRows : List (String × DataW Unit) := [("math/bits.deBruijn32tab", Rows.laid_math_bits_deBruijn32tab), ("math/bits.deBruijn64tab", Rows.laid_math_bits_deBruijn64tab), ("internal/strconv.uint64pow10", Rows.laid_internal_strconv_uint64pow10), ("unicode/utf8.acceptRanges", Rows.laid_unicode_utf8_acceptRanges), ("unicode/utf8.first", Rows.laid_unicode_utf8_first)]
theorem laidRows_plain (w : World) : laidMetH Tryd.prog laidRows w = laidMet Tryd.prog laidRows w := MakeChecks.laidMetH_plain _ _ _ (by kernel_rfl)
theorem tabs_of {w : World} (hL : laidMetH Tryd.prog laidRows w) (hsh : w.ShapedOpen Tryd.prog) : Tabs w := by
  rw [laidRows_plain] at hL
  have h3 := laidMet.tail (laidMet.tail hL)
  exact ⟨Lib.tabIs_of_head pow_named pow_type Tryd.underlying121 Tryd.underlying113 (by kernel_rfl) (by kernel_rfl) h3, hsh⟩
theorem laid_witness (os : Os) (args : Array Value) : laidMetH Tryd.prog laidRows ((World.laidAll Tryd.prog os laidRows).forCall (fun _ _ => 0) ⟨#[], args, []⟩).memory := by
  rw [laidRows_plain]
  exact laidMet_laidAll _ (by kernel_rfl) (by kernel_rfl)
theorem laid_shaped (os : Os) (args : Array Value) : ((World.laidAll Tryd.prog os laidRows).forCall (fun _ _ => 0) ⟨#[], args, []⟩).Shaped Tryd.prog :=
  World.shaped_of_ZipB (by kernel_rfl) (by kernel_rfl)
end Go.Proofs.YtjblplflgiibdaaDoor
