/- From a row's cell 'laid' to the two tables. -/
import Derived.Test.YtdbkefgdeenjoaaDoorDec
import Derived.Test.YtdbkefgdeenjoaaDoorRows
import Derived.Lib.LaidU8T
import Derived.PinnedBridge
namespace Go.Proofs.YtdbkefgdeenjoaaDoor.Tabs
set_option linter.unusedVariables false
set_option linter.unusedSimpArgs false
open Go.Shelf Go.Lib
def ren : Ren := ⟨fun n => n, fun | 5 => 5 | 119 => 95 | 138 => 97 | 139 => 98 | n => n, fun | 3 => 0 | 4 => 1 | n => n⟩
theorem accept : (Rows.laid_unicode_utf8_acceptRanges : DataW Unit) = acceptData := by kernel_rfl
theorem of_laid {w : World} {l : List (String × DataW Unit)} (h : laidMet Tryd.prog l w) (h3 : ("unicode/utf8.first", Rows.laid_unicode_utf8_first) ∈ l) (h4 : ("unicode/utf8.acceptRanges", Rows.laid_unicode_utf8_acceptRanges) ∈ l) : Holds w := by
  have ht : Utf8Tabs 0 1 w := utf8Tabs_of_readsT (ρ := ren) ⟨Tryd.underlying5, Tryd.underlying95, Tryd.underlying97, Tryd.underlying98⟩ ⟨by kernel_rfl, by kernel_rfl, by kernel_rfl, by kernel_rfl, by kernel_rfl, by kernel_rfl, by kernel_rfl⟩
    (Pinned.utf8First_eq ▸ laidMet.reads h h3) (accept ▸ laidMet.reads h h4)
  refine ⟨ht, ?_⟩
  have := World.block_lt_of_cell? w _ (ht.2 0 (by decide)).1
  exact this
end Go.Proofs.YtdbkefgdeenjoaaDoor.Tabs
