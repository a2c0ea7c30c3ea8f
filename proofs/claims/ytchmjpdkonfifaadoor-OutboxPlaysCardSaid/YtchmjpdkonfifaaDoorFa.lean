/- Walks, written by gen.py off the translation's own print: each says what the Go function comes to. -/
import Derived.Test.YtchmjpdkonfifaaDoorEa
import Derived.Test.YtchmjpdkonfifaaDoorCe
import Derived.Test.YtchmjpdkonfifaaDoorAbc
set_option linter.unusedVariables false
set_option linter.unusedSimpArgs false
namespace Go.Proofs.YtchmjpdkonfifaaDoor
open Go.Sx Go.RowKit
attribute [local irreducible] Ac Ex WL WC WX WP Gives

theorem eqHash (w : World) {a b : List UInt8} (ha : a.length = 32) (hb : b.length = 32) : EqT Tryd.prog 31 (bytesV a) (bytesV b) (decide (a = b)) :=
  EqT.to (EqT_of (w := w) (n := 8) (ks := rep 32 [.int .u8]) (by kernel_rfl) rfl (by kernel_rfl) (by decide) (by kernel_rfl) (by kernel_rfl) (by kernel_rfl)
    (by have := oks_u8 (w := w) a; rw [ha] at this; exact this) (by have := oks_u8 (w := w) b; rw [hb] at this; exact this)) ⟨bytesV_inj, fun e => by rw [e]⟩

theorem RdP.one {w : World} {gs : Nat} {p : SV} {e : TypeId} (h0 : (blk gs [svV p] e).sat w) (hr : Rd w p.A (bytesV p.l)) : RdP w (some ⟨gs, 0, none⟩) [p] :=
  ⟨blk_rdt (o := 0) (m := 1) (xs := [svV p]) h0 rfl, fun q hq => by obtain rfl : q = p := (by simpa using hq); exact hr⟩
theorem flatP_one (A : Option Addr) (c : Nat) (l : List UInt8) : flatP [⟨A, c, l⟩] = l := by simp [flatP]
theorem shaH (l : List UInt8) : H32 (sha l) := sha_length l

end Go.Proofs.YtchmjpdkonfifaaDoor
