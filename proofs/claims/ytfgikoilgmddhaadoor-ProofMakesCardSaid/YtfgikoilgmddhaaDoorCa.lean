/- Walks, written by gen.py off the translation's own print: each says what the Go function comes to. -/
import Derived.Test.YtfgikoilgmddhaaDoorFacts
import Derived.Test.YtfgikoilgmddhaaDoorSha
import Derived.Test.YtfgikoilgmddhaaDoorCod
set_option linter.unusedVariables false
set_option linter.unusedSimpArgs false
namespace Go.Proofs.YtfgikoilgmddhaaDoor
open Go.Sx Go.RowKit
attribute [local irreducible] Ac Ex WL WC WX WP Gives

theorem u32wN (a : Nat) : IntKind.u32.wrap (a : Int) = ((a % 4294967296 : Nat) : Int) := u32w a
theorem shl32 {x n : Nat} (hn : n ≤ 32) (hx : x < 4294967296) : IntKind.u32.wrap ((x : Int) * 2 ^ (min n IntKind.u32.bits)) = ((x % 2 ^ (32 - n) * 2 ^ n : Nat) : Int) := by
  have e0 : min n IntKind.u32.bits = n := by simp [IntKind.bits]; omega
  have e : 2 ^ n * 2 ^ (32 - n) = 4294967296 := by rw [← Nat.pow_add, Nat.add_sub_cancel' hn]
  rw [e0, show ((x : Int) * 2 ^ n) = ((x * 2 ^ n : Nat) : Int) by push_cast; rfl, u32w]
  congr 1
  rw [← e, Nat.mul_comm (2 ^ n), Nat.mul_mod_mul_right]
theorem bor32 {a b c : Nat} (ha : a < 4294967296) (hb : b < 4294967296) (hc : a ||| b = c) : bits .or .u32 (a : Int) (b : Int) = (c : Int) := by rw [← hc]; exact u32_or_nat a b ha hb
theorem bxor32 {a b c : Nat} (ha : a < 4294967296) (hb : b < 4294967296) (hc : a ^^^ b = c) : bits .xor .u32 (a : Int) (b : Int) = (c : Int) := by rw [← hc]; exact u32_xor_nat a b ha hb
theorem band32 {a b c : Nat} (ha : a < 4294967296) (hb : b < 4294967296) (hc : a &&& b = c) : bits .and .u32 (a : Int) (b : Int) = (c : Int) := by rw [← hc]; exact u32_and_nat a b ha hb
theorem com32 {x : Nat} (hx : x < 4294967296) : bits .xor .u32 IntKind.u32.max (x : Int) = ((4294967295 - x : Nat) : Int) := by
  rw [show IntKind.u32.max = ((4294967295 : Nat) : Int) by decide]
  refine bxor32 (a := 4294967295) (by decide) hx ?_
  apply Nat.eq_of_testBit_eq
  intro i
  rw [tb_com hx, Nat.testBit_xor, show (4294967295 : Nat) = 2 ^ 32 - 1 by decide, Nat.testBit_two_pow_sub_one]
  by_cases h : i < 32
  · simp [h]
  · have : x.testBit i = false := Nat.testBit_lt_two_pow (Nat.lt_of_lt_of_le hx (Nat.pow_le_pow_right (show 0 < 2 by decide) (by omega : 32 ≤ i)))
    simp [h, this]
theorem shr32 (x n : Nat) (hn : n ≤ 32) : ((x : Nat) : Int).fdiv (2 ^ min n IntKind.u32.bits) = ((x / 2 ^ n : Nat) : Int) := shrN _ _ _ (by simpa [IntKind.bits] using hn)
theorem u32V_inj {a b : List Nat} (h : u32V a = u32V b) : a = b := by
  induction a generalizing b with
  | nil => cases b with
    | nil => rfl
    | cons x r => simp [u32V] at h
  | cons x r ih => cases b with
    | nil => simp [u32V] at h
    | cons y s =>
      simp only [u32V, List.map_cons, List.cons.injEq, Value.int.injEq, true_and] at h
      rw [ih h.2, Int.ofNat.inj h.1]

/-- The tables lie where they are laid. -/
structure Tabs (w : World) : Prop where
  beg : Rd w (some ⟨1, 0, none⟩) (u32V hBeg)
  tab : Rd w (some ⟨2, 0, none⟩) (u32V kTab)
theorem Tabs.keep {w w' : World} (h : Tabs w) (k : Keep nof w w') : Tabs w' := ⟨h.beg.keep0 k, h.tab.keep0 k⟩
theorem Tabs.at_k {w : World} (h : Tabs w) {i : Nat} (hi : i < 64) : w.cell? ⟨2, 0 + ((i : Nat) : Int).toNat * 1, none⟩ = some (.int .u32 ((kTab.getD i 0 : Nat) : Int)) :=
  Rd.at1 h.tab (u32V_at (by simpa [kTab] using hi) (by simp))
/-- A sum that goes on: the words, the bytes that are left, how many went in. -/
abbrev stR (g : Nat) (v : Value) (l : List UInt8) : Res := sep (blk g (stC (stW l) v l.length) 106) (mrw v 5 (bytesV (stB l)))

/-- Parts that can be read, apart from some blocks. -/
structure RdA (w : World) (fp : List Nat) (A : Option Addr) (ps : List SV) : Prop where
  rd : RdP w A ps
  a0 : ∀ a, A = some a → ps ≠ [] → a.block ∉ fp
  a1 : ∀ p ∈ ps, ∀ a, p.A = some a → p.l ≠ [] → a.block ∉ fp
theorem RdA.row {w w1 : World} {fp : List Nat} {A : Option Addr} {ps : List SV} (h : RdA w fp A ps) (k : Keep (· ∈ fp) w w1) : Rd w1 A (ps.map svV) := by
  by_cases hp : ps = []
  · subst hp; exact Rd.nil _ _
  · exact h.rd.1.keep k fun a ha => h.a0 a ha hp
theorem RdA.part {w w1 : World} {fp : List Nat} {A : Option Addr} {ps : List SV} (h : RdA w fp A ps) (k : Keep (· ∈ fp) w w1) {p : SV} (hp : p ∈ ps) : Rd w1 p.A (bytesV p.l) := by
  by_cases hl : p.l = []
  · rw [hl]; exact Rd.nil _ _
  · exact (h.rd.2 p hp).keep k fun a ha => h.a1 p hp a ha hl
def flatP (ps : List SV) : List UInt8 := ps.flatMap (·.l)
theorem flatP_snoc {ps : List SV} {i : Nat} {p : SV} (h : ps[i]? = some p) : flatP (ps.take (i + 1)) = flatP (ps.take i) ++ p.l := by rw [take_snoc h]; simp [flatP]
theorem flatP_take_le (ps : List SV) (i : Nat) : (flatP (ps.take i)).length ≤ (flatP ps).length := by
  have : flatP ps = flatP (ps.take i) ++ flatP (ps.drop i) := by rw [flatP, flatP, flatP, ← List.flatMap_append, List.take_append_drop]
  rw [this, List.length_append]; omega
theorem mrw_mv {w : World} {v v' : Value} {e : TypeId} {xs ys : List Value} (h : (mrw v e xs).sat w) (hv : v = v') (hx : xs = ys) : (mrw v' e ys).sat w := by subst hv; subst hx; exact h

theorem mrw_drop_fp {A : Option Addr} {k m n n2 c c2 : Nat} {e : TypeId} {xs ys : List Value} {b : Nat} (h : b ∈ (mrw (.slice (if c = k then A else A.map (·.add m)) n c2) e ys).fp) : b ∈ (mrw (.slice A n2 c) e xs).fp := by
  split at h
  · cases A with
    | none => simp [mrw, Value.ownBlock] at h
    | some a => simpa [mrw, Value.ownBlock] using h
  · cases A with
    | none => simp [mrw, Value.ownBlock] at h
    | some a => simpa [mrw, Value.ownBlock, block_add] using h
theorem mrw_cap {w : World} {A : Option Addr} {n c : Nat} {e : TypeId} {xs : List Value} (h : (mrw (.slice A n c) e xs).sat w) : xs.length ≤ c ∧ c ≤ maxLen := by
  rcases h with ⟨hv, rfl⟩ | ⟨g, o, cap, cur, hv, hg, h1, h2, h3, h4⟩
  · injection hv with e1 e2 e3
    subst e3
    exact ⟨by simp, by simp [maxLen]⟩
  · injection hv with e1 e2 e3
    subst e3
    exact ⟨h1, h2⟩
theorem Tabs.keepF {w w' : World} {fp : List Nat} (h : Tabs w) (k : Keep (· ∈ fp) w w') (hF : ∀ b ∈ fp, b ≠ 1 ∧ b ≠ 2) : Tabs w' :=
  ⟨h.beg.keep k fun a ha hm => by injection ha with ha; subst ha; exact (hF _ hm).1 rfl, h.tab.keep k fun a ha hm => by injection ha with ha; subst ha; exact (hF _ hm).2 rfl⟩
theorem Tabs.lt {w : World} (h : Tabs w) : 1 < w.heap.size ∧ 2 < w.heap.size := by
  obtain ⟨a, ha, hc⟩ := h.beg 0 _ rfl
  obtain ⟨a', ha', hc'⟩ := h.tab 0 _ rfl
  injection ha with ha
  injection ha' with ha'
  subst ha; subst ha'
  exact ⟨World.block_lt_of_cell? w _ hc, World.block_lt_of_cell? w _ hc'⟩
theorem Tabs.fresh {w : World} (h : Tabs w) {b : Nat} (hb : w.heap.size ≤ b) : b ≠ 1 ∧ b ≠ 2 := by have := h.lt; omega
/-- The tail, byte by byte. -/
def tailTo (n i : Nat) : List UInt8 := [128] ++ List.replicate ((119 - n % 64) % 64) 0 ++ (be 8 (8 * n)).take i
theorem tailTo_8 (n : Nat) : tailTo n 8 = tail n := by rw [tailTo, tail, List.take_of_length_le (by simp)]
theorem tailTo_succ (n : Nat) {i : Nat} (h : i < 8) : tailTo n i ++ [UInt8.ofNat (8 * n / 2 ^ (56 - 8 * i))] = tailTo n (i + 1) := by
  rw [tailTo, tailTo, List.append_assoc, ← take_snoc (be8_get (8 * n) h)]
theorem tailTo_length (n i : Nat) : (tailTo n i).length = 1 + (119 - n % 64) % 64 + min i 8 := by simp [tailTo]; omega
theorem RdA.one {w : World} {fp : List Nat} {gs : Nat} {p : SV} {e : TypeId} (h0 : (blk gs [svV p] e).sat w) (hn : gs ∉ fp) (hr : Rd w p.A (bytesV p.l)) (ha : ∀ a, p.A = some a → p.l ≠ [] → a.block ∉ fp) : RdA w fp (some ⟨gs, 0, none⟩) [p] :=
  ⟨⟨by have := blk_rdt (o := 0) (m := 1) (xs := [svV p]) h0 rfl; exact this, fun q hq => by obtain rfl : q = p := (by simpa using hq); exact hr⟩, fun a ha _ => by injection ha with ha; subst ha; exact hn, fun q hq a h1 h2 => by obtain rfl : q = p := (by simpa using hq); exact ha a h1 h2⟩
theorem row_nblk {A : Option Addr} {n c : Nat} {e : TypeId} {sz : Nat} {xs : List Value} {a : Addr} (ha : A = some a) : a.block ∈ (row (.slice A n c) e sz n xs).fp := by subst ha; simp [row, Value.ownBlock]
theorem RdA.of_old {w : World} {fp : List Nat} {A : Option Addr} {ps : List SV} (h : RdP w A ps) (hf : ∀ b ∈ fp, w.heap.size ≤ b) : RdA w fp A ps := by
  refine ⟨h, fun a ha hne hm => ?_, fun p hp a ha hne hm => ?_⟩
  · have h1 := hf _ hm
    subst ha
    obtain ⟨a', e, hc⟩ := h.1 0 (svV (ps.head hne)) (by cases ps with | nil => exact absurd rfl hne | cons x r => rfl)
    injection e with e
    subst e
    have := World.block_lt_of_cell? w _ hc
    rw [block_add] at this
    omega
  · have h1 := hf _ hm
    subst_vars
    obtain ⟨a', e, hc⟩ := h.2 p hp 0 (byteV (p.l.head hne)) (by rw [bytesV, List.getElem?_map, List.getElem?_eq_getElem (List.length_pos_iff.2 hne)]; simp [List.head_eq_getElem])
    rw [ha] at e
    injection e with e
    subst e
    have := World.block_lt_of_cell? w _ hc
    rw [block_add] at this
    omega
theorem RdA.keep {w w1 : World} {fp : List Nat} {A : Option Addr} {ps : List SV} (h : RdA w fp A ps) (k : Keep nof w w1) : RdA w1 fp A ps := ⟨h.rd.keep k, h.a0, h.a1⟩

/- math/bits.RotateLeft32 -/
theorem rotl_ok (w : World) (x n : Nat) (k : Int) (hx : x < 4294967296) (hn : n ≤ 32) (h0 : 0 < n) (hk : k = -(n : Int)) :
    Gives Tryd.prog 62 #[.int .u32 (x : Int), .int .i64 k] w fun u w1 => u = .int .u32 ((rotr n x : Nat) : Int) ∧ Keep nof w w1 := by
  have M0 := Mem.start w nof
  subst hk
  refine Gives.enter (n := 17) Tryd.func62 rfl Tryd.ntmps62 rfl (env := [(0, .int .u32 (x : Int)), (1, .int .i64 (-(n : Int)))]) rfl ?_
  refine WC.seq ?_
  refine WC.region ?_
  refine WL.ex rfl rfl rfl (Ex.asg rfl) ?_
  refine WL.nil ?_
  refine WX.next (?_)
  refine WC.seq ?_
  refine WC.region ?_
  refine WL.ex rfl rfl rfl (Ex.mv rfl) ?_
  refine WL.ex rfl rfl rfl (Ex.cvI Tryd.underlying3 Tryd.underlying45 rfl (c := ((18446744073709551616 - n : Nat) : Int)) (by simp [IntKind.wrap, IntKind.bits, IntKind.signed]; omega)) ?_
  refine WL.ex rfl rfl rfl (Ex.band rfl rfl (c := (((32 - n) % 32 : Nat) : Int)) (by rw [show (31 : Int) = ((31 : Nat) : Int) from rfl]; rw [u64_and_nat _ _ (by omega) (by decide)]; congr 1; rw [show (31 : Nat) = 2 ^ 5 - 1 by decide, Nat.and_two_pow_sub_one_eq_mod]; omega)) ?_
  refine WL.ex rfl rfl rfl (Ex.asg rfl) ?_
  refine WL.nil ?_
  refine WX.next (?_)
  refine WC.seq ?_
  refine WC.region ?_
  refine WL.ex rfl rfl rfl (Ex.mv rfl) ?_
  refine WL.ex rfl rfl rfl (Ex.mv rfl) ?_
  refine WL.ex rfl rfl rfl (Ex.shl rfl rfl (m := (32 - n) % 32) rfl (shl32 (by omega) hx)) ?_
  refine WL.ex rfl rfl rfl (Ex.mv rfl) ?_
  refine WL.ex rfl rfl rfl (Ex.mv rfl) ?_
  refine WL.ex rfl rfl rfl (Ex.sub rfl rfl (c := ((32 - (32 - n) % 32 : Nat) : Int)) (by rw [show (32 : Int) - (((32 - n) % 32 : Nat) : Int) = ((32 - (32 - n) % 32 : Nat) : Int) by omega]; exact u64w_lt _ (by omega))) ?_
  refine WL.ex rfl rfl rfl (Ex.shr rfl rfl (m := 32 - (32 - n) % 32) rfl (shr32 _ _ (by omega))) ?_
  refine WL.ex rfl rfl rfl (Ex.bor rfl rfl (c := ((rotr n x : Nat) : Int)) (by
      rcases Nat.lt_or_ge n 32 with h | h
      · rw [show (32 - n) % 32 = 32 - n by omega, show 32 - (32 - n) = n by omega]
        have := rotr_or hn hx
        refine bor32 ?_ (Nat.lt_of_le_of_lt (Nat.div_le_self _ _) hx) this
        exact Nat.lt_of_le_of_lt (Nat.left_le_or (m := x / 2 ^ n)) (by rw [this]; exact rotr_lt hn hx)
      · obtain rfl : n = 32 := by omega
        refine bor32 ?_ (Nat.lt_of_le_of_lt (Nat.div_le_self _ _) hx) ?_
        · simp; exact Nat.mod_lt _ (by decide)
        · simp [rotr, Nat.mod_eq_of_lt hx, Nat.div_eq_of_lt hx])) ?_
  refine WL.ex rfl rfl rfl (Ex.asg rfl) ?_
  refine WL.nil ?_
  refine WX.next (?_)
  refine WC.ret ?_
  refine WX.ret1 rfl rfl ?_
  exact ⟨rfl, M0.keep⟩

/- sponsion/digest.turned -/
theorem turned_ok (w : World) (x a b c : Nat) (hx : x < 4294967296) (ha : 0 < a ∧ a ≤ 32) (hb : 0 < b ∧ b ≤ 32) (hc : 0 < c ∧ c ≤ 32) :
    Gives Tryd.prog 61 #[.int .u32 (x : Int), .int .i64 (a : Int), .int .i64 (b : Int), .int .i64 (c : Int)] w fun u w1 => u = .int .u32 ((three a b c x : Nat) : Int) ∧ Keep nof w w1 := by
  have M0 := Mem.start w nof
  refine Gives.enter (n := 23) Tryd.func61 rfl Tryd.ntmps61 rfl (env := [(0, .int .u32 (x : Int)), (1, .int .i64 (a : Int)), (2, .int .i64 (b : Int)), (3, .int .i64 (c : Int))]) rfl ?_
  refine WC.seq ?_
  refine WC.region ?_
  refine WL.ex rfl rfl rfl (Ex.asg rfl) ?_
  refine WL.nil ?_
  refine WX.next (?_)
  refine WC.seq ?_
  refine WC.region ?_
  refine WL.ex rfl rfl rfl (Ex.mv rfl) ?_
  refine WL.ex rfl rfl rfl (Ex.mv rfl) ?_
  refine WL.ex rfl rfl rfl (Ex.neg rfl (i64w _ (by omega) (by omega))) ?_
  refine WL.ac rfl rfl rfl (Ac.call rfl Tryd.func62 nm62 rfl (rotl_ok w x a _ hx ha.2 ha.1 (by omega))) ?_; rintro v5 w5 ⟨rfl, K5⟩
  have M5 := M0.step K5
  refine WL.ex rfl rfl rfl (Ex.mv rfl) ?_
  refine WL.ex rfl rfl rfl (Ex.mv rfl) ?_
  refine WL.ex rfl rfl rfl (Ex.neg rfl (i64w _ (by omega) (by omega))) ?_
  refine WL.ac rfl rfl rfl (Ac.call rfl Tryd.func62 nm62 rfl (rotl_ok w5 x b _ hx hb.2 hb.1 (by omega))) ?_; rintro v9 w9 ⟨rfl, K9⟩
  have M9 := M5.step K9
  refine WL.ex rfl rfl rfl (Ex.bxor rfl rfl (bxor32 (rotr_lt ha.2 hx) (rotr_lt hb.2 hx) rfl)) ?_
  refine WL.ex rfl rfl rfl (Ex.mv rfl) ?_
  refine WL.ex rfl rfl rfl (Ex.mv rfl) ?_
  refine WL.ex rfl rfl rfl (Ex.neg rfl (i64w _ (by omega) (by omega))) ?_
  refine WL.ac rfl rfl rfl (Ac.call rfl Tryd.func62 nm62 rfl (rotl_ok w9 x c _ hx hc.2 hc.1 (by omega))) ?_; rintro v14 w14 ⟨rfl, K14⟩
  have M14 := M9.step K14
  refine WL.ex rfl rfl rfl (Ex.bxor rfl rfl (bxor32 (xor32 (rotr_lt ha.2 hx) (rotr_lt hb.2 hx)) (rotr_lt hc.2 hx) rfl)) ?_
  refine WL.ex rfl rfl rfl (Ex.asg rfl) ?_
  refine WL.nil ?_
  refine WX.next (?_)
  refine WC.ret ?_
  refine WX.ret1 rfl rfl ?_
  exact ⟨rfl, M14.keep⟩

end Go.Proofs.YtfgikoilgmddhaaDoor
