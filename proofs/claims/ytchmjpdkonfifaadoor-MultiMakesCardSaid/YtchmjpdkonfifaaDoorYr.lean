/- Walks, written by gen.py off the translation's own print: each says what the Go function comes to. -/
import Derived.Test.YtchmjpdkonfifaaDoorY7
set_option linter.unusedVariables false
set_option linter.unusedSimpArgs false
namespace Go.Proofs.YtchmjpdkonfifaaDoor
open Go.Sx Go.RowKit
attribute [local irreducible] Ac Ex WL WC WX WP Gives sha

/-- A slice of hashes that comes in. -/
theorem ok_hashes {w : World} {v : Value} (h : CK.ok w (.sl (rep 32 [.int .u8])) v) : ∃ A c, ∃ ls : Hs, v = .slice A ls.length c ∧ ls.length ≤ c ∧ c ≤ maxLen ∧ Rd w A (fl ls) ∧ ∀ a ∈ ls, H32 a := by
  obtain ⟨A, c, es, h1, h2, h3, h4, h5⟩ := sl_view h bytesV H32 (fun vs hv => h32_view vs hv)
  exact ⟨A, c, es, h1, h2, h3, h4, h5⟩

end Go.Proofs.YtchmjpdkonfifaaDoor
