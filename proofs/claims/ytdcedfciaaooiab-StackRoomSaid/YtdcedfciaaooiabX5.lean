/- Reverse and Join of package dimension do what P17 says, for names of at most 2^63 - 1 bytes. -/
import Derived.Test.YtdcedfciaaooiabX4
set_option linter.unusedVariables false
namespace Go.Proofs.Ytdcedfciaaooiab
open Go.RowKit

theorem szD : (Try.prog.info? 62).map (·.size) = some 5 := by kernel_rfl
theorem mkDE {d : Dim} {e : Int} {w : World} : ∀ a b c x y r w', d = ⟨a, b, c, x, y⟩ → e = r → Ext w w' → Ret (.tuple #[.agg #[.string d.frm, .string d.to, .int .i64 d.axis, .int .i64 d.lo, .int .i64 d.hi], .int .i64 e]) w (.returned (.tuple #[.agg #[.string a, .string b, .int .i64 c, .int .i64 x, .int .i64 y], .int .i64 r])) w' := by
  rintro _ _ _ _ _ _ w' rfl rfl h; exact ⟨rfl, h⟩

end Go.Proofs.Ytdcedfciaaooiab
