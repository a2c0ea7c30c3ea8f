/- Short names for steps that come often. My own text. -/
import Derived.Test.YtchmjpdkonfifaaDoorSxg
set_option linter.unusedVariables false
namespace Go.Sx
open Go.RowKit
section
variable {P : Program} {n : Nat} {ops : Array Oper} {Q : Post} {rest : List Oper} {env : Env} {w : World} {d : Nat} {ty : TypeId} {pos : String} {aft : Array Edge} {x : Operand} {v : Value}
theorem qA (k : WL P n ops Q rest ((d, v) :: env) w) (hx : ev env x = some v := by exact rfl) (hn : Nat.ble (d + 1) n = true := by exact rfl) : WL P n ops Q (Oper.mk (some d) (.move x) ty pos aft none :: rest) env w := WL.ex rfl rfl hn (Ex.mv hx) k
theorem qB (k : WL P n ops Q rest ((d, v) :: env) w) (hx : ev env x = some v := by exact rfl) (hn : Nat.ble (d + 1) n = true := by exact rfl) : WL P n ops Q (Oper.mk (some d) (.assign x) ty pos aft none :: rest) env w := WL.ex rfl rfl hn (Ex.asg hx) k
theorem qC {l : List Oper} {S : World → Prop} {fin : List Nat} {r : PT} {i : Nat} {o : Oper} (k : WP P n l Q S fin r ((d, v) :: env) w) (hi : l[i]? = some o := by exact rfl) (hg : o.guard = none := by exact rfl) (hd : o.dst = some d := by exact rfl) (hn : Nat.ble (d + 1) n = true := by exact rfl) (h : ∀ w, Ex P n env o v w := by exact fun _ => Ex.mv rfl) : WP P n l Q S fin (.one i 0 r) env w := WP.p hi hg hd hn h k
theorem qD {y : Code} {id : Nat} {l : List Oper} (h : WL P n l.toArray (Exit.then (y.wp P Q) Q) l env w) : WC P n (.seq (.region id l.toArray false) y) Q env w := WC.seq (WC.region h)
theorem qE {y : Code} (h : WC P n y Q env w) : WL P n ops (Exit.then (y.wp P Q) Q) [] env w := WL.nil (WX.next h)
end
end Go.Sx
