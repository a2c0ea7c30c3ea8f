/-
  A walk by small steps, part 2: the operations that compute.
-/
import Derived.Test.YtchmjpdkonfifaaDoorSxa
set_option linter.unusedVariables false
set_option linter.unusedSimpArgs false
namespace Go.Sx
open Go.RowKit

/-! ### Numbers -/
theorem u8w (a : Nat) : IntKind.u8.wrap (a : Int) = ((a % 256 : Nat) : Int) := by rw [IntKind.wrap_u8]; omega
theorem u32w (a : Nat) : IntKind.u32.wrap (a : Int) = ((a % 4294967296 : Nat) : Int) := by rw [IntKind.wrap_u32]; omega
theorem u64w (a : Nat) : IntKind.u64.wrap (a : Int) = ((a % 18446744073709551616 : Nat) : Int) := by
  simp [IntKind.wrap, IntKind.bits, IntKind.signed]
theorem i64w (a : Int) (h1 : -9223372036854775808 ≤ a) (h2 : a ≤ 9223372036854775807) : IntKind.i64.wrap a = a := IntWalk.i64_in _ ⟨h1, h2⟩
theorem u8w_lt (a : Nat) (h : a < 256) : IntKind.u8.wrap (a : Int) = (a : Int) := by rw [u8w, Nat.mod_eq_of_lt h]
theorem u32w_lt (a : Nat) (h : a < 4294967296) : IntKind.u32.wrap (a : Int) = (a : Int) := by rw [u32w, Nat.mod_eq_of_lt h]
theorem u64w_lt (a : Nat) (h : a < 18446744073709551616) : IntKind.u64.wrap (a : Int) = (a : Int) := by rw [u64w, Nat.mod_eq_of_lt h]

theorem u8b (a : Nat) : IntKind.u8.wrap (a : Int) = ((UInt8.ofNat a).toNat : Int) := by rw [u8w]; simp
theorem shrN (a m b : Nat) (h : m ≤ b) : ((a : Nat) : Int).fdiv (2 ^ min m b) = ((a / 2 ^ m : Nat) : Int) := by
  rw [Nat.min_eq_left h, Int.fdiv_eq_ediv_of_nonneg _ (by exact Int.le_of_lt (Int.pow_pos (by decide)))]
  simp
section
variable {P : Program} {n : Nat} {env : Env} {w : World} {dst : Option Tmp} {ty : TypeId} {pos : String} {aft : Array Edge} {g : Option (Nat × Bool)}

theorem Ex.mv {x : Operand} {v : Value} (hx : ev env x = some v) : Ex P n env (Oper.mk dst (.move x) ty pos aft g) v w := fun a ha => by
  simp [execOp, ha.eval hx]
theorem Ex.asg {x : Operand} {v : Value} (hx : ev env x = some v) : Ex P n env (Oper.mk dst (.assign x) ty pos aft g) v w := fun a ha => by
  simp [execOp, ha.eval hx]
theorem Ex.pickT {c x y : Operand} {v : Value} (hc : ev env c = some (.bool true)) (hx : ev env x = some v) : Ex P n env (Oper.mk dst (.pick c x y) ty pos aft g) v w := fun a ha => by
  simp [execOp, ha.eval hc, ha.eval hx, asBool]
theorem Ex.pickF {c x y : Operand} {v : Value} (hc : ev env c = some (.bool false)) (hy : ev env y = some v) : Ex P n env (Oper.mk dst (.pick c x y) ty pos aft g) v w := fun a ha => by
  simp [execOp, ha.eval hc, ha.eval hy, asBool]
theorem Ex.ext {x : Operand} {i : Nat} {vs : Array Value} {v : Value} (hx : ev env x = some (.tuple vs)) (hi : vs[i]? = some v) : Ex P n env (Oper.mk dst (.extract x i) ty pos aft g) v w := fun a ha => by
  simp [execOp, ha.eval hx, Instr.extract, hi]
theorem Ex.not {t : TypeId} {x : Operand} {b : Bool} (hx : ev env x = some (.bool b)) : Ex P n env (Oper.mk dst (.unOp .not t x) ty pos aft g) (.bool !b) w := fun a ha => by
  simp [execOp, ha.eval hx, Op.unary]
theorem Ex.nilc {x : Operand} {p : Addr} (hx : ev env x = some (.pointer (some p))) : Ex P n env (Oper.mk dst (.nilCheck x) ty pos aft g) (.pointer (some p)) w := fun a ha => by
  simp [execOp, ha.eval hx]
theorem Ex.mkf {fn : Fn} {fi ca : Array Operand} {f' c' : List Value} (hf : evs env fi.toList = some f') (hc : evs env ca.toList = some c') : Ex P n env (Oper.mk dst (.makeFunc fn fi ca) ty pos aft g) (.func fn f'.toArray c'.toArray) w := fun a ha => by
  have h1 := ha.evals hf
  have h2 := ha.evals hc
  have e1 : Array.map a.eval fi = f'.toArray := by apply Array.toList_inj.1; rw [Array.toList_map, h1]
  have e2 : Array.map a.eval ca = c'.toArray := by apply Array.toList_inj.1; rw [Array.toList_map, h2]
  simp [execOp, Instr.makeFunc, e1, e2]

/-! ### Binary operators -/
theorem eqGuard_ok (b : BinOp) (t : TypeId) (x y : Operand) (u v : Value) (h : ∀ cs, u ≠ .agg cs) (h' : u ≠ .nilIface) : (eqGuard b t x y u v).run P w = .ok () w := by
  unfold eqGuard
  cases b <;> (cases u <;> first | rfl | exact absurd rfl (h _) | exact absurd rfl h')
theorem Ex.bin {b : BinOp} {t t' : TypeId} {x y : Operand} {u v r : Value} (hx : ev env x = some u) (hy : ev env y = some v) (hgd : (eqGuard b t x y u v).run P w = .ok () w)
    (hr : (binOp b t u v).run P w = .ok r w) : Ex P n env (Oper.mk dst (.binOp b t x y t') ty pos aft g) r w := fun a ha => by
  simp [execOp, ha.eval hx, ha.eval hy, hgd, hr]
section
variable {t t' : TypeId} {x y : Operand} {k : IntKind} {p q c : Int} (hx : ev env x = some (.int k p)) (hy : ev env y = some (.int k q))
include hx hy
theorem Ex.add (hc : k.wrap (p + q) = c) : Ex P n env (Oper.mk dst (.binOp .add t x y t') ty pos aft g) (.int k c) w :=
  Ex.bin hx hy (eqGuard_ok _ _ _ _ _ _ (by simp) (by simp)) (by subst hc; simp [binOp, Op.intArith])
theorem Ex.sub (hc : k.wrap (p - q) = c) : Ex P n env (Oper.mk dst (.binOp .sub t x y t') ty pos aft g) (.int k c) w :=
  Ex.bin hx hy (eqGuard_ok _ _ _ _ _ _ (by simp) (by simp)) (by subst hc; simp [binOp, Op.intArith])
theorem Ex.mul (hc : k.wrap (p * q) = c) : Ex P n env (Oper.mk dst (.binOp .mul t x y t') ty pos aft g) (.int k c) w :=
  Ex.bin hx hy (eqGuard_ok _ _ _ _ _ _ (by simp) (by simp)) (by subst hc; simp [binOp, Op.intArith])
theorem Ex.quo (h0 : q ≠ 0) (hc : k.wrap (p.tdiv q) = c) : Ex P n env (Oper.mk dst (.binOp .quo t x y t') ty pos aft g) (.int k c) w :=
  Ex.bin hx hy (eqGuard_ok _ _ _ _ _ _ (by simp) (by simp)) (by subst hc; simp [binOp, Op.intDiv, h0])
theorem Ex.rem (h0 : q ≠ 0) (hc : p.tmod q = c) : Ex P n env (Oper.mk dst (.binOp .rem t x y t') ty pos aft g) (.int k c) w :=
  Ex.bin hx hy (eqGuard_ok _ _ _ _ _ _ (by simp) (by simp)) (by subst hc; simp [binOp, Op.intDiv, h0])
theorem Ex.eqI : Ex P n env (Oper.mk dst (.binOp .eql t x y t') ty pos aft g) (.bool (decide (p = q))) w :=
  Ex.bin hx hy (eqGuard_ok _ _ _ _ _ _ (by simp) (by simp)) (by simp [binOp, Op.intCmp]; rfl)
theorem Ex.neI : Ex P n env (Oper.mk dst (.binOp .neq t x y t') ty pos aft g) (.bool (!decide (p = q))) w :=
  Ex.bin hx hy (eqGuard_ok _ _ _ _ _ _ (by simp) (by simp)) (by simp [binOp, Op.intCmp]; rfl)
theorem Ex.lss : Ex P n env (Oper.mk dst (.binOp .lss t x y t') ty pos aft g) (.bool (decide (p < q))) w :=
  Ex.bin hx hy (eqGuard_ok _ _ _ _ _ _ (by simp) (by simp)) (by simp [binOp, Op.intCmp])
theorem Ex.leq : Ex P n env (Oper.mk dst (.binOp .leq t x y t') ty pos aft g) (.bool (decide (p ≤ q))) w :=
  Ex.bin hx hy (eqGuard_ok _ _ _ _ _ _ (by simp) (by simp)) (by simp [binOp, Op.intCmp])
theorem Ex.gtr : Ex P n env (Oper.mk dst (.binOp .gtr t x y t') ty pos aft g) (.bool (decide (q < p))) w :=
  Ex.bin hx hy (eqGuard_ok _ _ _ _ _ _ (by simp) (by simp)) (by simp [binOp, Op.intCmp])
theorem Ex.geq : Ex P n env (Oper.mk dst (.binOp .geq t x y t') ty pos aft g) (.bool (decide (q ≤ p))) w :=
  Ex.bin hx hy (eqGuard_ok _ _ _ _ _ _ (by simp) (by simp)) (by simp [binOp, Op.intCmp])
theorem Ex.band (hc : bits .and k p q = c) : Ex P n env (Oper.mk dst (.binOp .and t x y t') ty pos aft g) (.int k c) w :=
  Ex.bin hx hy (eqGuard_ok _ _ _ _ _ _ (by simp) (by simp)) (by subst hc; simp [binOp, Op.intBits, bits])
theorem Ex.bor (hc : bits .or k p q = c) : Ex P n env (Oper.mk dst (.binOp .or t x y t') ty pos aft g) (.int k c) w :=
  Ex.bin hx hy (eqGuard_ok _ _ _ _ _ _ (by simp) (by simp)) (by subst hc; simp [binOp, Op.intBits, bits])
theorem Ex.bxor (hc : bits .xor k p q = c) : Ex P n env (Oper.mk dst (.binOp .xor t x y t') ty pos aft g) (.int k c) w :=
  Ex.bin hx hy (eqGuard_ok _ _ _ _ _ _ (by simp) (by simp)) (by subst hc; simp [binOp, Op.intBits, bits])
end
theorem Ex.shl {t t' : TypeId} {x y : Operand} {k k' : IntKind} {p q c : Int} {m : Nat} (hx : ev env x = some (.int k p)) (hy : ev env y = some (.int k' q)) (hq : q = (m : Int)) (hc : k.wrap (p * 2 ^ (min m k.bits)) = c) :
    Ex P n env (Oper.mk dst (.binOp .shl t x y t') ty pos aft g) (.int k c) w :=
  Ex.bin hx hy (eqGuard_ok _ _ _ _ _ _ (by simp) (by simp)) (by
    subst hc; subst hq
    have h0 : ¬ ((m : Int) < 0) := by omega
    simp only [binOp, Op.shift, if_neg h0, Int.toNat_natCast]; rfl)
theorem Ex.shr {t t' : TypeId} {x y : Operand} {k k' : IntKind} {p q c : Int} {m : Nat} (hx : ev env x = some (.int k p)) (hy : ev env y = some (.int k' q)) (hq : q = (m : Int)) (hc : p.fdiv (2 ^ (min m k.bits)) = c) :
    Ex P n env (Oper.mk dst (.binOp .shr t x y t') ty pos aft g) (.int k c) w :=
  Ex.bin hx hy (eqGuard_ok _ _ _ _ _ _ (by simp) (by simp)) (by
    subst hc; subst hq
    have h0 : ¬ ((m : Int) < 0) := by omega
    simp only [binOp, Op.shift, if_neg h0, Int.toNat_natCast]; rfl)
theorem Ex.eqB {t t' : TypeId} {x y : Operand} {p q : Bool} (ht : P.underlying t = some .bool) (hx : ev env x = some (.bool p)) (hy : ev env y = some (.bool q)) :
    Ex P n env (Oper.mk dst (.binOp .eql t x y t') ty pos aft g) (.bool (p == q)) w :=
  Ex.bin hx hy (eqGuard_ok _ _ _ _ _ _ (by simp) (by simp)) (by simp [binOp, Op.equal, Op.maxDepth, run_equalIn_bool' w 9999 t p q ht])
theorem Ex.neB {t t' : TypeId} {x y : Operand} {p q : Bool} (ht : P.underlying t = some .bool) (hx : ev env x = some (.bool p)) (hy : ev env y = some (.bool q)) :
    Ex P n env (Oper.mk dst (.binOp .neq t x y t') ty pos aft g) (.bool (!(p == q))) w :=
  Ex.bin hx hy (eqGuard_ok _ _ _ _ _ _ (by simp) (by simp)) (by simp [binOp, Op.equal, Op.maxDepth, run_equalIn_bool' w 9999 t p q ht])
theorem beq_dec (p q : List UInt8) : (p == q) = decide (p = q) := by
  by_cases h : p = q
  · simp [h]
  · simp [h]
/-- Strings: as lists of bytes. -/
def str (l : List UInt8) : Value := .string ⟨l.toArray⟩
theorem toList_mk (l : List UInt8) : (ByteArray.mk l.toArray).toList = l := by rw [ByteArray.toList_eq]
theorem Ex.eqS {t t' : TypeId} {x y : Operand} {p q : List UInt8} (hx : ev env x = some (str p)) (hy : ev env y = some (str q)) :
    Ex P n env (Oper.mk dst (.binOp .eql t x y t') ty pos aft g) (.bool (decide (p = q))) w :=
  Ex.bin hx hy (eqGuard_ok _ _ _ _ _ _ (by simp [str]) (by simp [str])) (by simp [binOp, Op.stringOp, str, toList_mk, beq_dec])
theorem Ex.neS {t t' : TypeId} {x y : Operand} {p q : List UInt8} (hx : ev env x = some (str p)) (hy : ev env y = some (str q)) :
    Ex P n env (Oper.mk dst (.binOp .neq t x y t') ty pos aft g) (.bool (!decide (p = q))) w :=
  Ex.bin hx hy (eqGuard_ok _ _ _ _ _ _ (by simp [str]) (by simp [str])) (by simp [binOp, Op.stringOp, str, toList_mk, beq_dec])
theorem Ex.addS {t t' : TypeId} {x y : Operand} {p q : List UInt8} (hx : ev env x = some (str p)) (hy : ev env y = some (str q)) (hl : p.length + q.length ≤ 9223372036854775807) :
    Ex P n env (Oper.mk dst (.binOp .add t x y t') ty pos aft g) (str (p ++ q)) w :=
  Ex.bin hx hy (eqGuard_ok _ _ _ _ _ _ (by simp [str]) (by simp [str])) (by
    have h1 : ¬ ((((ByteArray.mk p.toArray).size + (ByteArray.mk q.toArray).size : Nat) : Int) > IntKind.i64.max) := by simp [IntKind.max, IntKind.bits, IntKind.signed, ByteArray.size]; omega
    have e : ByteArray.mk p.toArray ++ ByteArray.mk q.toArray = ByteArray.mk (p ++ q).toArray := by
      apply ByteArray.ext; simp
    simp only [binOp, str, Op.stringOp]; rw [if_neg h1, e]; rfl)
theorem run_equal_ptr {P : Program} (w : World) {t e : TypeId} {i : TypeInfo} {p q : Addr} (ht : P.underlying t = some (.pointer e)) (hi : P.info? e = some i) (hs : i.size ≠ 0) (hb : p.block = q.block) :
    (Op.equal t (.pointer (some p)) (.pointer (some q))).run P w = .ok (p == q) w := by
  unfold Op.equal
  rw [show Op.maxDepth = 9999 + 1 from rfl]
  unfold Op.equalIn
  simp [run_underlying ht, sizeOf, typeInfo, hi, hs, sameAddr, hb]
theorem run_equal_ptr_nil {P : Program} (w : World) {t e : TypeId} {p : Option Addr} (ht : P.underlying t = some (.pointer e)) : (Op.equal t (.pointer p) (.pointer none)).run P w = .ok p.isNone w := by
  unfold Op.equal
  rw [show Op.maxDepth = 9999 + 1 from rfl]
  unfold Op.equalIn
  cases p <;> simp [run_underlying ht]
theorem run_equal_slice_nil {P : Program} (w : World) {t e : TypeId} {A : Option Addr} {l c : Nat} (ht : P.underlying t = some (.slice e)) : (Op.equal t (.slice A l c) (.slice none 0 0)).run P w = .ok A.isNone w := by
  unfold Op.equal
  rw [show Op.maxDepth = 9999 + 1 from rfl]
  unfold Op.equalIn
  cases A <;> simp [run_underlying ht]
/-- Two pointers. -/
theorem Ex.eqP {t t' e : TypeId} {x y : Operand} {p q : Addr} (ht : P.underlying t = some (.pointer e)) (hsz : (P.info? e).map (fun i => i.size == 0) = some false) (hx : ev env x = some (.pointer (some p))) (hy : ev env y = some (.pointer (some q)))
    (hb : p.block = q.block) : Ex P n env (Oper.mk dst (.binOp .eql t x y t') ty pos aft g) (.bool (p == q)) w :=
  Ex.bin hx hy (eqGuard_ok _ _ _ _ _ _ (by simp) (by simp)) (by
    obtain ⟨i, hi, hs⟩ := Option.map_eq_some_iff.1 hsz
    have he := run_equal_ptr (P := P) w ht hi (by simpa using hs) hb
    simp [binOp, he])
theorem Ex.neP {t t' e : TypeId} {x y : Operand} {p q : Addr} (ht : P.underlying t = some (.pointer e)) (hsz : (P.info? e).map (fun i => i.size == 0) = some false) (hx : ev env x = some (.pointer (some p))) (hy : ev env y = some (.pointer (some q)))
    (hb : p.block = q.block) : Ex P n env (Oper.mk dst (.binOp .neq t x y t') ty pos aft g) (.bool (!(p == q))) w :=
  Ex.bin hx hy (eqGuard_ok _ _ _ _ _ _ (by simp) (by simp)) (by
    obtain ⟨i, hi, hs⟩ := Option.map_eq_some_iff.1 hsz
    have he := run_equal_ptr (P := P) w ht hi (by simpa using hs) hb
    simp [binOp, he])
/-- A pointer against nil. -/
theorem Ex.eqPn {t t' e : TypeId} {x : Operand} {p : Option Addr} (ht : P.underlying t = some (.pointer e)) (hx : ev env x = some (.pointer p)) :
    Ex P n env (Oper.mk dst (.binOp .eql t x (.const (.pointer none)) t') ty pos aft g) (.bool p.isNone) w :=
  Ex.bin hx rfl (eqGuard_ok _ _ _ _ _ _ (by simp) (by simp)) (by simp [binOp, run_equal_ptr_nil w ht])
theorem Ex.nePn {t t' e : TypeId} {x : Operand} {p : Option Addr} (ht : P.underlying t = some (.pointer e)) (hx : ev env x = some (.pointer p)) :
    Ex P n env (Oper.mk dst (.binOp .neq t x (.const (.pointer none)) t') ty pos aft g) (.bool (!p.isNone)) w :=
  Ex.bin hx rfl (eqGuard_ok _ _ _ _ _ _ (by simp) (by simp)) (by simp [binOp, run_equal_ptr_nil w ht])
/-- A slice against nil. -/
theorem Ex.eqN {t t' e : TypeId} {x : Operand} {A : Option Addr} {l c : Nat} (ht : P.underlying t = some (.slice e)) (hx : ev env x = some (.slice A l c)) :
    Ex P n env (Oper.mk dst (.binOp .eql t x (.const (.slice none 0 0)) t') ty pos aft g) (.bool A.isNone) w :=
  Ex.bin hx rfl (eqGuard_ok _ _ _ _ _ _ (by simp) (by simp)) (by simp [binOp, run_equal_slice_nil w ht])
theorem Ex.neN {t t' e : TypeId} {x : Operand} {A : Option Addr} {l c : Nat} (ht : P.underlying t = some (.slice e)) (hx : ev env x = some (.slice A l c)) :
    Ex P n env (Oper.mk dst (.binOp .neq t x (.const (.slice none 0 0)) t') ty pos aft g) (.bool (!A.isNone)) w :=
  Ex.bin hx rfl (eqGuard_ok _ _ _ _ _ _ (by simp) (by simp)) (by simp [binOp, run_equal_slice_nil w ht])
/-- Values that are rows of cells: what '==' comes to is said by a fact on the type. -/
def EqT (P : Program) (t : TypeId) (xs ys : List Value) (b : Bool) : Prop := ∀ w, (eqGuard .eql t (.tmp 0) (.tmp 0) (.agg xs.toArray) (.agg ys.toArray)).run P w = .ok () w ∧ (Op.equal t (.agg xs.toArray) (.agg ys.toArray)).run P w = .ok b w
theorem eqGuard_any {b : BinOp} {t : TypeId} {x y : Operand} {xs ys : Array Value} (h : (eqGuard .eql t (.tmp 0) (.tmp 0) (.agg xs) (.agg ys)).run P w = .ok () w) : (eqGuard b t x y (.agg xs) (.agg ys)).run P w = .ok () w := by
  cases b <;> first | rfl | exact h
theorem Ex.eqA {t t' : TypeId} {x y : Operand} {xs ys : List Value} {b : Bool} (hx : ev env x = some (.agg xs.toArray)) (hy : ev env y = some (.agg ys.toArray)) (h : EqT P t xs ys b) :
    Ex P n env (Oper.mk dst (.binOp .eql t x y t') ty pos aft g) (.bool b) w :=
  Ex.bin hx hy (eqGuard_any (h w).1) (by simp [binOp, (h w).2])
theorem Ex.neA {t t' : TypeId} {x y : Operand} {xs ys : List Value} {b : Bool} (hx : ev env x = some (.agg xs.toArray)) (hy : ev env y = some (.agg ys.toArray)) (h : EqT P t xs ys b) :
    Ex P n env (Oper.mk dst (.binOp .neq t x y t') ty pos aft g) (.bool (!b)) w :=
  Ex.bin hx hy (eqGuard_any (h w).1) (by simp [binOp, (h w).2])

/-! ### Conversions -/
theorem Ex.cvI {s t : TypeId} {x : Operand} {k k' : IntKind} {p c : Int} {D : TypeDesc} (hs : P.underlying s = some D) (ht : P.underlying t = some (.int k)) (hx : ev env x = some (.int k' p)) (hc : k.wrap p = c) :
    Ex P n env (Oper.mk dst (.convert s t x) ty pos aft g) (.int k c) w := fun a ha => by
  subst hc
  simp [execOp, ha.eval hx, convert, run_underlying ht, run_underlying hs, Conv.intToInt]

/-! ### Lengths -/
theorem Ex.len {t e : TypeId} {x : Operand} {A : Option Addr} {l c : Nat} (ht : P.underlying t = some (.slice e)) (hx : ev env x = some (.slice A l c)) :
    Ex P n env (Oper.mk dst (.call { callee := .builtin .len, args := #[x], argTypes := #[t] }) ty pos aft g) (.int .i64 (l : Int)) w := fun a ha => by
  simp [execOp, resolve, invoke, builtin, ha.eval hx, Builtin.len_, run_underlying ht, goInt]
theorem Ex.lenS {t : TypeId} {x : Operand} {l : List UInt8} (ht : P.underlying t = some .string) (hx : ev env x = some (str l)) :
    Ex P n env (Oper.mk dst (.call { callee := .builtin .len, args := #[x], argTypes := #[t] }) ty pos aft g) (.int .i64 (l.length : Int)) w := fun a ha => by
  have h := ha.eval hx
  unfold str at h
  simp only [execOp, resolve, invoke, builtin, List.map_toArray, List.map_cons, List.map_nil, h, Sem.run_bind, Sem.run_pure, Result.andThen_ok, Builtin.len_, run_underlying ht]
  simp [run_underlying ht, goInt]; rfl
theorem Ex.lenA {t e : TypeId} {x : Operand} {m : Nat} {v : Value} (ht : P.underlying t = some (.array m e)) (hx : ev env x = some v) :
    Ex P n env (Oper.mk dst (.call { callee := .builtin .len, args := #[x], argTypes := #[t] }) ty pos aft g) (.int .i64 (m : Int)) w := fun a ha => by
  simp [execOp, resolve, invoke, builtin, ha.eval hx, Builtin.len_, run_underlying ht, goInt]
theorem Ex.max2 {x y : Operand} {ts : Array TypeId} {k k' : IntKind} {p q c : Int} (hx : ev env x = some (.int k p)) (hy : ev env y = some (.int k' q)) (hc : (if q > p then q else p) = c) :
    Ex P n env (Oper.mk dst (.call { callee := .builtin .max, args := #[x, y], argTypes := ts }) ty pos aft g) (.int k c) w := fun a ha => by
  subst hc
  simp [execOp, resolve, invoke, builtin, ha.eval hx, ha.eval hy, Builtin.max_, Builtin.max2]
theorem Ex.min2 {x y : Operand} {ts : Array TypeId} {k k' : IntKind} {p q c : Int} (hx : ev env x = some (.int k p)) (hy : ev env y = some (.int k' q)) (hc : (if q < p then q else p) = c) :
    Ex P n env (Oper.mk dst (.call { callee := .builtin .min, args := #[x, y], argTypes := ts }) ty pos aft g) (.int k c) w := fun a ha => by
  subst hc
  simp [execOp, resolve, invoke, builtin, ha.eval hx, ha.eval hy, Builtin.min_, Builtin.min2]

/-! ### Strings -/
theorem Ex.ixS {t : TypeId} {x i : Operand} {k : IntKind} {l : List UInt8} {j : Int} {b : UInt8} (ht : P.underlying t = some .string) (hx : ev env x = some (str l)) (hi : ev env i = some (.int k j)) (h0 : 0 ≤ j) (hb : l[j.toNat]? = some b) :
    Ex P n env (Oper.mk dst (.index t x i) ty pos aft g) (.int .u8 (b.toNat : Int)) w := fun a ha => by
  obtain ⟨h1, h2⟩ := List.getElem?_eq_some_iff.1 hb
  have h3 : j.toNat < (ByteArray.mk l.toArray).size := by simpa [ByteArray.size] using h1
  have e : (ByteArray.mk l.toArray)[j.toNat]? = some b := by
    rw [getElem?_pos (ByteArray.mk l.toArray) j.toNat h3]
    simpa [ByteArray.getElem_eq_getElem_data] using h2
  simp [execOp, ha.eval hx, ha.eval hi, Instr.index, asIntOf, run_underlying ht, str, h0, e]
end
end Go.Sx
