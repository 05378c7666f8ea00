/- Helps: CrdP. -/
import Derived.Test.YtknmngejjoohdaaGreatDoorB15
import Derived.Test.YtknmngejjoohdaaGreatDoorRows
import Derived.Stop.LaidErr
import Derived.Lay
import Derived.LaidMore
import Derived.Lib.LaidU8
namespace Go.Proofs.YtknmngejjoohdaaGreatDoor
open Go.Lib
set_option maxRecDepth 100000
theorem pow_type:(Tryz.prog.globals[1]?).map (·.type) = some 258:=by kernel_rfl
def laidRows : List (String × DataW Unit) := [("math/bits.deBruijn32tab", Rows.laid_math_bits_deBruijn32tab), ("math/bits.deBruijn64tab", Rows.laid_math_bits_deBruijn64tab), ("internal/strconv.uint64pow10", Rows.laid_internal_strconv_uint64pow10), ("unicode/utf8.acceptRanges", Rows.laid_unicode_utf8_acceptRanges), ("unicode/utf8.first", Rows.laid_unicode_utf8_first)]
theorem laidRows_plain (w:World):laidMetH Tryz.prog laidRows w = laidMet Tryz.prog laidRows w:=MakeChecks.laidMetH_plain _ _ _ (by kernel_rfl)
theorem tabs_of {w:World} (hL:laidMetH Tryz.prog laidRows w) (hsh:w.ShapedOpen Tryz.prog):Tabs w:=by
 rw [laidRows_plain] at hL
 have h3:=laidMet.tail (laidMet.tail hL)
 exact ⟨Lib.tabIs_of_head pow_named pow_type Tryz.underlying258 Tryz.underlying252 (by kernel_rfl) (by kernel_rfl) h3,hsh⟩
theorem laid_witness (os:Os) (args:Array Value):laidMetH Tryz.prog laidRows ((World.laidAll Tryz.prog os laidRows).forCall (fun _ _=>0) ⟨#[],args,[]⟩).memory:=by
 rw [laidRows_plain]
 exact laidMet_laidAll _ (by kernel_rfl) (by kernel_rfl)
theorem laid_shaped (os:Os) (args:Array Value):((World.laidAll Tryz.prog os laidRows).forCall (fun _ _=>0) ⟨#[],args,[]⟩).Shaped Tryz.prog :=
 World.shaped_of_ZipB (by kernel_rfl) (by kernel_rfl)
end Go.Proofs.YtknmngejjoohdaaGreatDoor
