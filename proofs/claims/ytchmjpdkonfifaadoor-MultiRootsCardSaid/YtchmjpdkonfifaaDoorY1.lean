/- Walks, written by gen.py off the translation's own print: each says what the Go function comes to. -/
import Derived.Test.YtchmjpdkonfifaaDoorFacts
import Derived.Test.YtchmjpdkonfifaaDoorSha
import Derived.Test.YtchmjpdkonfifaaDoorCod
import Derived.Test.YtchmjpdkonfifaaDoorAl
set_option linter.unusedVariables false
set_option linter.unusedSimpArgs false
namespace Go.Proofs.YtchmjpdkonfifaaDoor
open Go.Sx Go.RowKit
attribute [local irreducible] Ac Ex WL WC WX WP Gives

theorem u32wN (a : Nat) : IntKind.u32.wrap (a : Int) = ((a % 4294967296 : Nat) : Int) := u32w a
theorem shl32 {x n : Nat} (hn : n ≤ 32) (hx : x < 4294967296) : IntKind.u32.wrap ((x : Int) * 2 ^ (min n IntKind.u32.bits)) = ((x % 2 ^ (32 - n) * 2 ^ n : Nat) : Int) := by
  have e0 : min n IntKind.u32.bits = n := by simp [IntKind.bits]; omega
  have e : 2 ^ n * 2 ^ (32 - n) = 4294967296 := by rw [← Nat.pow_add, Nat.add_sub_cancel' hn]
  rw [e0, show ((x : Int) * 2 ^ n) = ((x * 2 ^ n : Nat) : Int) by push_cast; rfl, u32w]
  congr 1
  rw [← e, Nat.mul_comm (2 ^ n), Nat.mul_mod_mul_right]
theorem bor32 {a b c : Nat} (ha : a < 4294967296) (hb : b < 4294967296) (hc : a ||| b = c) : bits .or .u32 (a : Int) (b : Int) = (c : Int) := by rw [← hc]; exact u32_or_nat a b ha hb
theorem bxor32 {a b c : Nat} (ha : a < 4294967296) (hb : b < 4294967296) (hc : a ^^^ b = c) : bits .xor .u32 (a : Int) (b : Int) = (c : Int) := by rw [← hc]; exact u32_xor_nat a b ha hb
theorem band32 {a b c : Nat} (ha : a < 4294967296) (hb : b < 4294967296) (hc : a &&& b = c) : bits .and .u32 (a : Int) (b : Int) = (c : Int) := by rw [← hc]; exact u32_and_nat a b ha hb
theorem com32 {x : Nat} (hx : x < 4294967296) : bits .xor .u32 IntKind.u32.max (x : Int) = ((4294967295 - x : Nat) : Int) := by
  rw [show IntKind.u32.max = ((4294967295 : Nat) : Int) by decide]
  refine bxor32 (a := 4294967295) (by decide) hx ?_
  apply Nat.eq_of_testBit_eq
  intro i
  rw [tb_com hx, Nat.testBit_xor, show (4294967295 : Nat) = 2 ^ 32 - 1 by decide, Nat.testBit_two_pow_sub_one]
  by_cases h : i < 32
  · simp [h]
  · have : x.testBit i = false := Nat.testBit_lt_two_pow (Nat.lt_of_lt_of_le hx (Nat.pow_le_pow_right (show 0 < 2 by decide) (by omega : 32 ≤ i)))
    simp [h, this]
theorem shr32 (x n : Nat) (hn : n ≤ 32) : ((x : Nat) : Int).fdiv (2 ^ min n IntKind.u32.bits) = ((x / 2 ^ n : Nat) : Int) := shrN _ _ _ (by simpa [IntKind.bits] using hn)
theorem u32V_inj {a b : List Nat} (h : u32V a = u32V b) : a = b := by
  induction a generalizing b with
  | nil => cases b with
    | nil => rfl
    | cons x r => simp [u32V] at h
  | cons x r ih => cases b with
    | nil => simp [u32V] at h
    | cons y s =>
      simp only [u32V, List.map_cons, List.cons.injEq, Value.int.injEq, true_and] at h
      rw [ih h.2, Int.ofNat.inj h.1]

/-- The tables lie where they are laid. -/
structure Tabs (w : World) : Prop where
  beg : Rd w (some ⟨1, 0, none⟩) (u32V hBeg)
  tab : Rd w (some ⟨2, 0, none⟩) (u32V kTab)
theorem Tabs.keep {w w' : World} (h : Tabs w) (k : Keep nof w w') : Tabs w' := ⟨h.beg.keep0 k, h.tab.keep0 k⟩
theorem Tabs.at_k {w : World} (h : Tabs w) {i : Nat} (hi : i < 64) : w.cell? ⟨2, 0 + ((i : Nat) : Int).toNat * 1, none⟩ = some (.int .u32 ((kTab.getD i 0 : Nat) : Int)) :=
  Rd.at1 h.tab (u32V_at (by simpa [kTab] using hi) (by simp))
/-- A sum that goes on: the words, the bytes that are left, how many went in. -/
abbrev stR (g : Nat) (v : Value) (l : List UInt8) : Res := sep (blk g (stC (stW l) v l.length) 189) (mrw v 5 (bytesV (stB l)))

/-- Parts that can be read, apart from some blocks. -/
structure RdA (w : World) (fp : List Nat) (A : Option Addr) (ps : List SV) : Prop where
  rd : RdP w A ps
  a0 : ∀ a, A = some a → ps ≠ [] → a.block ∉ fp
  a1 : ∀ p ∈ ps, ∀ a, p.A = some a → p.l ≠ [] → a.block ∉ fp
theorem RdA.row {w w1 : World} {fp : List Nat} {A : Option Addr} {ps : List SV} (h : RdA w fp A ps) (k : Keep (· ∈ fp) w w1) : Rd w1 A (ps.map svV) := by
  by_cases hp : ps = []
  · subst hp; exact Rd.nil _ _
  · exact h.rd.1.keep k fun a ha => h.a0 a ha hp
theorem RdA.part {w w1 : World} {fp : List Nat} {A : Option Addr} {ps : List SV} (h : RdA w fp A ps) (k : Keep (· ∈ fp) w w1) {p : SV} (hp : p ∈ ps) : Rd w1 p.A (bytesV p.l) := by
  by_cases hl : p.l = []
  · rw [hl]; exact Rd.nil _ _
  · exact (h.rd.2 p hp).keep k fun a ha => h.a1 p hp a ha hl
def flatP (ps : List SV) : List UInt8 := ps.flatMap (·.l)
theorem flatP_snoc {ps : List SV} {i : Nat} {p : SV} (h : ps[i]? = some p) : flatP (ps.take (i + 1)) = flatP (ps.take i) ++ p.l := by rw [take_snoc h]; simp [flatP]
theorem flatP_take_le (ps : List SV) (i : Nat) : (flatP (ps.take i)).length ≤ (flatP ps).length := by
  have : flatP ps = flatP (ps.take i) ++ flatP (ps.drop i) := by rw [flatP, flatP, flatP, ← List.flatMap_append, List.take_append_drop]
  rw [this, List.length_append]; omega
theorem mrw_mv {w : World} {v v' : Value} {e : TypeId} {xs ys : List Value} (h : (mrw v e xs).sat w) (hv : v = v') (hx : xs = ys) : (mrw v' e ys).sat w := by subst hv; subst hx; exact h

theorem mrw_drop_fp {A : Option Addr} {k m n n2 c c2 : Nat} {e : TypeId} {xs ys : List Value} {b : Nat} (h : b ∈ (mrw (.slice (if c = k then A else A.map (·.add m)) n c2) e ys).fp) : b ∈ (mrw (.slice A n2 c) e xs).fp := by
  split at h
  · cases A with
    | none => simp [mrw, Value.ownBlock] at h
    | some a => simpa [mrw, Value.ownBlock] using h
  · cases A with
    | none => simp [mrw, Value.ownBlock] at h
    | some a => simpa [mrw, Value.ownBlock, block_add] using h
theorem mrw_cap {w : World} {A : Option Addr} {n c : Nat} {e : TypeId} {xs : List Value} (h : (mrw (.slice A n c) e xs).sat w) : xs.length ≤ c ∧ c ≤ maxLen := by
  rcases h with ⟨hv, rfl⟩ | ⟨g, o, cap, cur, hv, hg, h1, h2, h3, h4⟩
  · injection hv with e1 e2 e3
    subst e3
    exact ⟨by simp, by simp [maxLen]⟩
  · injection hv with e1 e2 e3
    subst e3
    exact ⟨h1, h2⟩
theorem Tabs.keepF {w w' : World} {fp : List Nat} (h : Tabs w) (k : Keep (· ∈ fp) w w') (hF : ∀ b ∈ fp, b ≠ 1 ∧ b ≠ 2) : Tabs w' :=
  ⟨h.beg.keep k fun a ha hm => by injection ha with ha; subst ha; exact (hF _ hm).1 rfl, h.tab.keep k fun a ha hm => by injection ha with ha; subst ha; exact (hF _ hm).2 rfl⟩
theorem Tabs.lt {w : World} (h : Tabs w) : 1 < w.heap.size ∧ 2 < w.heap.size := by
  obtain ⟨a, ha, hc⟩ := h.beg 0 _ rfl
  obtain ⟨a', ha', hc'⟩ := h.tab 0 _ rfl
  injection ha with ha
  injection ha' with ha'
  subst ha; subst ha'
  exact ⟨World.block_lt_of_cell? w _ hc, World.block_lt_of_cell? w _ hc'⟩
theorem Tabs.fresh {w : World} (h : Tabs w) {b : Nat} (hb : w.heap.size ≤ b) : b ≠ 1 ∧ b ≠ 2 := by have := h.lt; omega
/-- The tail, byte by byte. -/
def tailTo (n i : Nat) : List UInt8 := [128] ++ List.replicate ((119 - n % 64) % 64) 0 ++ (be 8 (8 * n)).take i
theorem tailTo_8 (n : Nat) : tailTo n 8 = tail n := by rw [tailTo, tail, List.take_of_length_le (by simp)]
theorem tailTo_succ (n : Nat) {i : Nat} (h : i < 8) : tailTo n i ++ [UInt8.ofNat (8 * n / 2 ^ (56 - 8 * i))] = tailTo n (i + 1) := by
  rw [tailTo, tailTo, List.append_assoc, ← take_snoc (be8_get (8 * n) h)]
theorem tailTo_length (n i : Nat) : (tailTo n i).length = 1 + (119 - n % 64) % 64 + min i 8 := by simp [tailTo]; omega
theorem RdA.one {w : World} {fp : List Nat} {gs : Nat} {p : SV} {e : TypeId} (h0 : (blk gs [svV p] e).sat w) (hn : gs ∉ fp) (hr : Rd w p.A (bytesV p.l)) (ha : ∀ a, p.A = some a → p.l ≠ [] → a.block ∉ fp) : RdA w fp (some ⟨gs, 0, none⟩) [p] :=
  ⟨⟨by have := blk_rdt (o := 0) (m := 1) (xs := [svV p]) h0 rfl; exact this, fun q hq => by obtain rfl : q = p := (by simpa using hq); exact hr⟩, fun a ha _ => by injection ha with ha; subst ha; exact hn, fun q hq a h1 h2 => by obtain rfl : q = p := (by simpa using hq); exact ha a h1 h2⟩
theorem row_nblk {A : Option Addr} {n c : Nat} {e : TypeId} {sz : Nat} {xs : List Value} {a : Addr} (ha : A = some a) : a.block ∈ (row (.slice A n c) e sz n xs).fp := by subst ha; simp [row, Value.ownBlock]
theorem RdA.of_old {w : World} {fp : List Nat} {A : Option Addr} {ps : List SV} (h : RdP w A ps) (hf : ∀ b ∈ fp, w.heap.size ≤ b) : RdA w fp A ps := by
  refine ⟨h, fun a ha hne hm => ?_, fun p hp a ha hne hm => ?_⟩
  · have h1 := hf _ hm
    subst ha
    obtain ⟨a', e, hc⟩ := h.1 0 (svV (ps.head hne)) (by cases ps with | nil => exact absurd rfl hne | cons x r => rfl)
    injection e with e
    subst e
    have := World.block_lt_of_cell? w _ hc
    rw [block_add] at this
    omega
  · have h1 := hf _ hm
    subst_vars
    obtain ⟨a', e, hc⟩ := h.2 p hp 0 (byteV (p.l.head hne)) (by rw [bytesV, List.getElem?_map, List.getElem?_eq_getElem (List.length_pos_iff.2 hne)]; simp [List.head_eq_getElem])
    rw [ha] at e
    injection e with e
    subst e
    have := World.block_lt_of_cell? w _ hc
    rw [block_add] at this
    omega
theorem RdA.keep {w w1 : World} {fp : List Nat} {A : Option Addr} {ps : List SV} (h : RdA w fp A ps) (k : Keep nof w w1) : RdA w1 fp A ps := ⟨h.rd.keep k, h.a0, h.a1⟩

/- math/bits.RotateLeft32 -/
theorem rotl_ok (w : World) (x n : Nat) (k : Int) (hx : x < 4294967296) (hn : n ≤ 32) (h0 : 0 < n) (hk : k = -(n : Int)) :
    Gives Tryd.prog 140 #[.int .u32 (x : Int), .int .i64 k] w fun u w1 => u = .int .u32 ((rotr n x : Nat) : Int) ∧ Keep nof w w1 := by
  have M0 := Mem.start w nof
  subst hk
  refine Gives.enter (n := 17) Tryd.func140 rfl Tryd.ntmps140 rfl (env := [(0, .int .u32 (x : Int)), (1, .int .i64 (-(n : Int)))]) rfl ?_
  refine qD ?_
  refine qB ?_
  refine qE ?_
  refine qD ?_
  refine qA ?_
  refine WL.ex rfl rfl rfl (Ex.cvI Tryd.underlying3 Tryd.underlying162 rfl (c := ((18446744073709551616 - n : Nat) : Int)) (by simp [IntKind.wrap, IntKind.bits, IntKind.signed]; omega)) ?_
  refine WL.ex rfl rfl rfl (Ex.band rfl rfl (c := (((32 - n) % 32 : Nat) : Int)) (by rw [show (31 : Int) = ((31 : Nat) : Int) from rfl]; rw [u64_and_nat _ _ (by omega) (by decide)]; congr 1; rw [show (31 : Nat) = 2 ^ 5 - 1 by decide, Nat.and_two_pow_sub_one_eq_mod]; omega)) ?_
  refine qB ?_
  refine qE ?_
  refine qD ?_
  refine qA ?_
  refine qA ?_
  refine WL.ex rfl rfl rfl (Ex.shl rfl rfl (m := (32 - n) % 32) rfl (shl32 (by omega) hx)) ?_
  refine qA ?_
  refine qA ?_
  refine WL.ex rfl rfl rfl (Ex.sub rfl rfl (c := ((32 - (32 - n) % 32 : Nat) : Int)) (by rw [show (32 : Int) - (((32 - n) % 32 : Nat) : Int) = ((32 - (32 - n) % 32 : Nat) : Int) by omega]; exact u64w_lt _ (by omega))) ?_
  refine WL.ex rfl rfl rfl (Ex.shr rfl rfl (m := 32 - (32 - n) % 32) rfl (shr32 _ _ (by omega))) ?_
  refine WL.ex rfl rfl rfl (Ex.bor rfl rfl (c := ((rotr n x : Nat) : Int)) (by
      rcases Nat.lt_or_ge n 32 with h | h
      · rw [show (32 - n) % 32 = 32 - n by omega, show 32 - (32 - n) = n by omega]
        have := rotr_or hn hx
        refine bor32 ?_ (Nat.lt_of_le_of_lt (Nat.div_le_self _ _) hx) this
        exact Nat.lt_of_le_of_lt (Nat.left_le_or (m := x / 2 ^ n)) (by rw [this]; exact rotr_lt hn hx)
      · obtain rfl : n = 32 := by omega
        refine bor32 ?_ (Nat.lt_of_le_of_lt (Nat.div_le_self _ _) hx) ?_
        · simp; exact Nat.mod_lt _ (by decide)
        · simp [rotr, Nat.mod_eq_of_lt hx, Nat.div_eq_of_lt hx])) ?_
  refine qB ?_
  refine qE ?_
  refine WC.ret ?_
  refine WX.ret1 rfl rfl ?_
  exact ⟨rfl, M0.keep⟩

/- sponsion/digest.turned -/
theorem turned_ok (w : World) (x a b c : Nat) (hx : x < 4294967296) (ha : 0 < a ∧ a ≤ 32) (hb : 0 < b ∧ b ≤ 32) (hc : 0 < c ∧ c ≤ 32) :
    Gives Tryd.prog 138 #[.int .u32 (x : Int), .int .i64 (a : Int), .int .i64 (b : Int), .int .i64 (c : Int)] w fun u w1 => u = .int .u32 ((three a b c x : Nat) : Int) ∧ Keep nof w w1 := by
  have M0 := Mem.start w nof
  refine Gives.enter (n := 23) Tryd.func138 rfl Tryd.ntmps138 rfl (env := [(0, .int .u32 (x : Int)), (1, .int .i64 (a : Int)), (2, .int .i64 (b : Int)), (3, .int .i64 (c : Int))]) rfl ?_
  refine qD ?_
  refine qB ?_
  refine qE ?_
  refine qD ?_
  refine qA ?_
  refine qA ?_
  refine WL.ex rfl rfl rfl (Ex.neg rfl (i64w _ (by omega) (by omega))) ?_
  refine WL.ac rfl rfl rfl (Ac.call rfl Tryd.func140 nm140 rfl (rotl_ok w x a _ hx ha.2 ha.1 (by omega))) ?_; rintro v5 w5 ⟨rfl, K5⟩
  have M5 := M0.step K5
  refine qA ?_
  refine qA ?_
  refine WL.ex rfl rfl rfl (Ex.neg rfl (i64w _ (by omega) (by omega))) ?_
  refine WL.ac rfl rfl rfl (Ac.call rfl Tryd.func140 nm140 rfl (rotl_ok w5 x b _ hx hb.2 hb.1 (by omega))) ?_; rintro v9 w9 ⟨rfl, K9⟩
  have M9 := M5.step K9
  refine WL.ex rfl rfl rfl (Ex.bxor rfl rfl (bxor32 (rotr_lt ha.2 hx) (rotr_lt hb.2 hx) rfl)) ?_
  refine qA ?_
  refine qA ?_
  refine WL.ex rfl rfl rfl (Ex.neg rfl (i64w _ (by omega) (by omega))) ?_
  refine WL.ac rfl rfl rfl (Ac.call rfl Tryd.func140 nm140 rfl (rotl_ok w9 x c _ hx hc.2 hc.1 (by omega))) ?_; rintro v14 w14 ⟨rfl, K14⟩
  have M14 := M9.step K14
  refine WL.ex rfl rfl rfl (Ex.bxor rfl rfl (bxor32 (xor32 (rotr_lt ha.2 hx) (rotr_lt hb.2 hx)) (rotr_lt hc.2 hx) rfl)) ?_
  refine qB ?_
  refine qE ?_
  refine WC.ret ?_
  refine WX.ret1 rfl rfl ?_
  exact ⟨rfl, M14.keep⟩

/- sponsion/digest.words -/
theorem words_ok (w : World) (A : Option Addr) (c : Nat) (p : List UInt8) (hp : p.length = 64) (hc : 64 ≤ c) (hr : Rd w A (bytesV p)) :
    Gives Tryd.prog 137 #[.slice A 64 c] w fun u w1 => u = .agg (u32V (wAt p 64)).toArray ∧ Keep nof w w1 := by
  obtain ⟨b0, o0, rfl, _⟩ := hr.plain (by simp [hp])
  have M0 := Mem.start w nof
  refine Gives.enter (n := 83) Tryd.func137 rfl Tryd.ntmps137 rfl (env := [(0, .slice (some ⟨b0, o0, none⟩) 64 c)]) rfl ?_
  refine qD ?_
  refine WL.ac rfl rfl rfl (Ac.alloc M0 (l := u32V (List.replicate 64 0)) (by kernel_rfl)) ?_; rintro v1 w1 ⟨g1, rfl, hg1, K1, M1⟩
  refine qE ?_
  refine WC.jump (σ := Nat × Nat) 0 (fun s => [(0, .slice (some ⟨b0, o0, none⟩) 64 c), (2, .pointer (some ⟨g1, 0, none⟩)), (3, .pointer (some ⟨s.2, 0, none⟩)), (4, .int .i64 (s.1 : Int))]) (fun s wr => s.1 < 64 ∧ Mem w wr nof [blk s.2 (u32V (wAt p s.1)) 165, blk g1 (u32V (List.replicate 64 0)) 165]) (fun s => 64 - s.1) rfl ?_ ?_
  · skip
    rintro ⟨i, gw⟩ w2 ⟨hi, M2⟩
    dsimp only at hi M2
    refine WC.sub (env' := [(0, .slice (some ⟨b0, o0, none⟩) 64 c), (2, .pointer (some ⟨g1, 0, none⟩)), (3, .pointer (some ⟨gw, 0, none⟩)), (4, .int .i64 (i : Int))]) (.cons rfl (.cons rfl (.cons rfl (.cons rfl (.nil))))) ?_
    refine WC.cut (σ := Unit) (fun _ => [(0, .slice (some ⟨b0, o0, none⟩) 64 c), (2, .pointer (some ⟨g1, 0, none⟩)), (3, .pointer (some ⟨gw, 0, none⟩)), (4, .int .i64 (i : Int))]) (fun _ wr => Mem w wr nof [blk gw (u32V (wAt p (i + 1))) 165, blk g1 (u32V (List.replicate 64 0)) 165]) ?_ ?_
    ·
      refine qD ?_
      refine qA ?_
      refine WL.ex rfl rfl rfl (Ex.lss rfl rfl) ?_
      refine qE ?_
      refine WC.cond_dec rfl (fun hlo => ?_) (fun hlo => ?_)
      · have hlo2 : i < 16 := by omega
        refine qD ?_
        refine qA ?_
        refine qA ?_
        refine WL.ex rfl rfl rfl (Ex.mul rfl rfl (c := ((4 * i : Nat) : Int)) (by rw [i64w _ (by omega) (by omega)]; omega)) ?_
        refine qA ?_
        refine WL.ex rfl rfl rfl (Ex.mul rfl rfl (c := ((4 * i : Nat) : Int)) (by rw [i64w _ (by omega) (by omega)]; omega)) ?_
        refine WL.ex rfl rfl rfl (Ex.add rfl rfl (c := ((4 * i + 4 : Nat) : Int)) (by rw [i64w _ (by omega) (by omega)]; omega)) ?_
        refine WL.ex rfl rfl rfl (Ex.sllhN Tryd.underlying112 sz5 rfl rfl rfl (by omega) (by omega) (by omega)) ?_
        rw [show 4 * i + 4 - 4 * i = 4 by omega]
        obtain ⟨q, hq⟩ : ∃ q, q = (p.drop (4 * i)).take 4 := ⟨_, rfl⟩
        have hql : q.length = 4 := by rw [hq]; simp; omega
        have hqr : Rd w (some ⟨b0, o0 + 4 * i * 1, none⟩) (bytesV q) := by
          have h1 := (hr.drop (4 * i)).take 4
          simp only [Option.map_some, add0] at h1
          rw [hq, Nat.mul_one]
          simpa [bytesV] using h1
        refine WL.ex rfl rfl rfl (Ex.len Tryd.underlying112 rfl) ?_
        refine qA ?_
        refine qE ?_
        refine WC.block ?_
        refine WC.loop (σ := Nat) (fun j => [(0, .slice (some ⟨b0, o0, none⟩) 64 c), (2, .pointer (some ⟨g1, 0, none⟩)), (3, .pointer (some ⟨gw, 0, none⟩)), (4, .int .i64 (i : Int)), (17, .slice (some ⟨b0, o0 + 4 * i * 1, none⟩) 4 (c - 4 * i)), (18, .int .i64 4), (19, .int .i64 (j : Int))]) (fun j wr => j ≤ 4 ∧ Mem w wr nof [blk gw (u32V ((wAt p i).set i (beVal (q.take j)))) 165, blk g1 (u32V (List.replicate 64 0)) 165]) (fun j => 4 - j) (0) ?_ (.cons rfl (.cons rfl (.cons rfl (.cons rfl (.cons rfl (.cons rfl (.cons rfl (.nil)))))))) ?_
        · refine ⟨by decide, ?_⟩
          have hz : (wAt p i).set i (beVal (q.take 0)) = wAt p i := wAt_self p hi
          rw [hz]
          exact M2
        rintro j w14 ⟨hj, M14⟩
        refine qD ?_
        refine WL.ex rfl rfl rfl (Ex.lss rfl rfl) ?_
        refine qE ?_
        refine WC.seq ?_
        refine WC.cond_dec rfl (fun hj4 => ?_) (fun hj4 => ?_)
        · obtain ⟨b, hb⟩ : ∃ b, q[j]? = some b := ⟨_, List.getElem?_eq_getElem (by omega)⟩
          have hb8 := b.toNat_lt
          have hv : beVal (q.take j) < 256 ^ 3 := beVal_lt_of (by simp; omega)
          refine WC.skip ?_
          refine WX.next ?_
          refine WC.seq ?_
          refine WC.block ?_
          refine qD ?_
          refine WL.ex rfl rfl rfl (Ex.ia Tryd.underlying112 sz5 rfl rfl ⟨by omega, by omega⟩) ?_
          refine WL.ex rfl rfl rfl (Ex.load ty5 rfl (Rd.at1 (u := byteV b) (M14.rd hqr) (j := (j : Int).toNat * 1) (by simp [bytesV_get hb]))) ?_
          refine qB ?_
          refine qE ?_
          refine WC.region ?_
          refine qA ?_
          refine qA ?_
          refine WL.ex rfl rfl rfl (Ex.iaA Tryd.underlying165 sz46 rfl rfl ⟨by omega, by omega⟩) ?_
          refine WL.ex rfl rfl rfl (Ex.load ty46 rfl (M14.cell (i := 0) (v := .int .u32 ((beVal (q.take j) : Nat) : Int)) rfl (u32V_self (by rw [(wAt_ok p i).1]; exact hi) (by simp)))) ?_
          refine WL.ex rfl rfl rfl (Ex.shl rfl rfl (m := 8) rfl (c := ((beVal (q.take j) * 2 ^ 8 : Nat) : Int)) (by rw [shl32 (by decide) (by omega), Nat.mod_eq_of_lt (show beVal (q.take j) < 16777216 by omega)])) ?_
          refine qA ?_
          refine WL.ex rfl rfl rfl (Ex.cvI Tryd.underlying5 Tryd.underlying46 rfl (u32w_lt _ (by omega))) ?_
          refine WL.ex rfl rfl rfl (Ex.bor rfl rfl (c := ((beVal (q.take (j + 1)) : Nat) : Int)) (bor32 (by omega) (by omega) (by rw [or_add hb8, take_snoc hb, beVal_snoc]))) ?_
          refine WL.ex rfl rfl rfl (Ex.iaA Tryd.underlying165 sz46 rfl rfl ⟨by omega, by omega⟩) ?_
          refine WL.ac0 rfl rfl (Ac.st M14 ty46 rfl rfl rfl (i := 0) rfl (by simp [(wAt_ok p i).1]; omega)) ?_; rintro v28 w28 ⟨K28, M28⟩
          try dsimp only [List.set] at M28
          simp only [Int.toNat_natCast, Nat.mul_one, Nat.zero_add] at M28
          rw [u32V_set, List.set_set] at M28
          refine WL.nil ?_
          refine WX.normal_block (WX.next (?_))
          refine WC.region ?_
          refine WL.ex rfl rfl rfl (Ex.add rfl rfl (i64w _ (by omega) (by omega))) ?_
          refine qA ?_
          refine WL.nil ?_
          refine WX.again (j + 1) ?_ ?_ (.cons rfl (.cons rfl (.cons rfl (.cons rfl (.cons rfl (.cons rfl (.cons rfl (.nil))))))))
          · (try dsimp only); omega
          · exact ⟨by omega, M28⟩
        · obtain rfl : j = 4 := by omega
          rw [List.take_of_length_le (by omega), hq, ← wAt_lo p hlo2] at M14
          refine WC.exit ?_
          refine WX.exit_then (WX.exit_then (WX.exit_block (?_)))
          refine WX.join (()) ?_ (.cons rfl (.cons rfl (.cons rfl (.cons rfl (.nil)))))
          exact M14
      · have hlo2 : ¬ i < 16 := by omega
        refine WC.seq ?_
        refine WC.draw (Keep nof w2.drew) [] (.one 0 0 (.one 1 0 (.one 2 0 (.one 4 0 (.one 5 0 (.one 6 0 (.one 3 1 (.one 8 0 (.one 7 1 (.one 9 0 .nil)))))))))) mixed (by kernel_rfl) (by kernel_rfl) (by kernel_rfl) (HQ.then_ (HQ.then_ (HQ.jump HQ.body))) ?_
        obtain ⟨w31, hw31⟩ : ∃ v, v = w2.drew := ⟨_, rfl⟩
        have D31 : Keep nof w2 w31 := by rw [hw31]; exact Keep.drew _ _
        have M31 := M2.step D31
        rw [← hw31]; clear hw31
        refine qC ?_
        refine WP.p rfl rfl rfl rfl (fun _ => Ex.sub rfl rfl (c := ((i - 15 : Nat) : Int)) (by rw [i64w _ (by omega) (by omega)]; omega)) ?_
        refine WP.p rfl rfl rfl rfl (fun _ => Ex.iaA Tryd.underlying165 sz46 rfl rfl ⟨by omega, by omega⟩) ?_
        refine qC ?_
        refine WP.p rfl rfl rfl rfl (fun _ => Ex.sub rfl rfl (c := ((i - 2 : Nat) : Int)) (by rw [i64w _ (by omega) (by omega)]; omega)) ?_
        refine WP.p rfl rfl rfl rfl (fun _ => Ex.iaA Tryd.underlying165 sz46 rfl rfl ⟨by omega, by omega⟩) ?_
        refine WP.q (Keep.refl _ _) rfl rfl rfl rfl (fun w' hS => Ex.load ty46 rfl (hS.cell (M31.cell (i := 0) rfl (u32V_at (i := i - 15) (by rw [(wAt_ok p i).1]; omega) (by simp))) (fun f => f))) ?_
        refine WP.p rfl rfl rfl rfl (fun _ => Ex.asg rfl) ?_
        refine WP.q (Keep.refl _ _) rfl rfl rfl rfl (fun w' hS => Ex.load ty46 rfl (hS.cell (M31.cell (i := 0) rfl (u32V_at (i := i - 2) (by rw [(wAt_ok p i).1]; omega) (by simp))) (fun f => f))) ?_
        refine WP.p rfl rfl rfl rfl (fun _ => Ex.asg rfl) ?_
        refine WP.nil ?_
        refine WX.next ?_
        refine WC.seq ?_
        refine WC.draw (Keep nof w31.drew) [11] (.one 0 0 (.one 1 0 (.one 2 0 (.one 3 0 (.one 5 0 (.one 6 0 (.one 7 0 (.one 4 1 (.one 8 1 (.one 9 0 (.one 10 0 (.one 11 2 .nil)))))))))))) mixed (by kernel_rfl) (by kernel_rfl) (by kernel_rfl) (HQ.then_ (HQ.then_ (HQ.jump HQ.body))) ?_
        obtain ⟨w42, hw42⟩ : ∃ v, v = w31.drew := ⟨_, rfl⟩
        have D42 : Keep nof w31 w42 := by rw [hw42]; exact Keep.drew _ _
        have M42 := M31.step D42
        rw [← hw42]; clear hw42
        refine qC ?_
        refine qC ?_
        refine WP.p rfl rfl rfl rfl (fun _ => Ex.sub rfl rfl (c := ((i - 16 : Nat) : Int)) (by rw [i64w _ (by omega) (by omega)]; omega)) ?_
        refine WP.p rfl rfl rfl rfl (fun _ => Ex.iaA Tryd.underlying165 sz46 rfl rfl ⟨by omega, by omega⟩) ?_
        refine qC ?_
        refine WP.p rfl rfl rfl rfl (fun _ => Ex.sub rfl rfl (c := ((i - 7 : Nat) : Int)) (by rw [i64w _ (by omega) (by omega)]; omega)) ?_
        refine WP.p rfl rfl rfl rfl (fun _ => Ex.iaA Tryd.underlying165 sz46 rfl rfl ⟨by omega, by omega⟩) ?_
        refine WP.q (Keep.refl _ _) rfl rfl rfl rfl (fun w' hS => Ex.load ty46 rfl (hS.cell (M42.cell (i := 0) rfl (u32V_at (i := i - 16) (by rw [(wAt_ok p i).1]; omega) (by simp))) (fun f => f))) ?_
        refine WP.q (Keep.refl _ _) rfl rfl rfl rfl (fun w' hS => Ex.load ty46 rfl (hS.cell (M42.cell (i := 0) rfl (u32V_at (i := i - 7) (by rw [(wAt_ok p i).1]; omega) (by simp))) (fun f => f))) ?_
        refine WP.p rfl rfl rfl rfl (fun _ => Ex.add rfl rfl (add32N _ _)) ?_
        refine WP.p rfl rfl rfl rfl (fun _ => Ex.iaA Tryd.underlying165 sz46 rfl rfl ⟨by omega, by omega⟩) ?_
        refine WP.a0 rfl rfl rfl (Ac.st M42 ty46 rfl rfl rfl (i := 0) rfl (by simp [(wAt_ok p i).1]; omega)) ?_; rintro v54 w54 ⟨K54, M54⟩; refine .inl ⟨rfl, Keep nof w54, ?_⟩
        try dsimp only [List.set] at M54
        simp only [Int.toNat_natCast, Nat.mul_one, Nat.zero_add] at M54
        rw [u32V_set] at M54
        refine WP.nil ?_
        refine WX.next ?_
        refine WC.seq ?_
        refine WC.draw (Keep nof w54.drew) [13] (.one 0 0 (.one 1 0 (.one 3 0 (.one 5 0 (.one 8 0 (.one 9 0 (.one 2 1 (.one 4 2 (.one 6 2 (.one 7 0 (.one 10 0 (.one 11 0 (.one 12 0 (.one 13 2 .nil)))))))))))))) mixed (by kernel_rfl) (by kernel_rfl) (by kernel_rfl) (HQ.then_ (HQ.then_ (HQ.jump HQ.body))) ?_
        obtain ⟨w55, hw55⟩ : ∃ v, v = w54.drew := ⟨_, rfl⟩
        have D55 : Keep nof w54 w55 := by rw [hw55]; exact Keep.drew _ _
        have M55 := M54.step D55
        rw [← hw55]; clear hw55
        refine qC ?_
        refine WP.p rfl rfl rfl rfl (fun _ => Ex.iaA Tryd.underlying165 sz46 rfl rfl ⟨by omega, by omega⟩) ?_
        refine qC ?_
        refine qC ?_
        refine qC ?_
        refine WP.p rfl rfl rfl rfl (fun _ => Ex.shr rfl rfl (m := 3) rfl (shr32 _ _ (by decide))) ?_
        refine WP.q (Keep.refl _ _) rfl rfl rfl rfl (fun w' hS => Ex.load ty46 rfl (hS.cell (M55.cell (i := 0) rfl (u32V_self (by rw [(wAt_ok p i).1]; exact hi) (by simp))) (fun f => f))) ?_
        refine WP.as rfl rfl rfl rfl (Ac.call rfl Tryd.func140 nm140 rfl (rotl_ok w55 _ 7 _ (u32s_get (wAt_ok p i)) (by decide) (by decide) (by decide))) ?_; rintro v63 w63 ⟨rfl, K63⟩
        refine ⟨Keep nof w63, fun u h => K63.trans h, Keep.refl _ _, ?_⟩
        have M63 := M55.step K63
        refine WP.as rfl rfl rfl rfl (Ac.call rfl Tryd.func140 nm140 rfl (rotl_ok w63 _ 18 _ (u32s_get (wAt_ok p i)) (by decide) (by decide) (by decide))) ?_; rintro v64 w64 ⟨rfl, K64⟩
        refine ⟨Keep nof w64, fun u h => K64.trans h, Keep.refl _ _, ?_⟩
        have M64 := M63.step K64
        refine WP.p rfl rfl rfl rfl (fun _ => Ex.bxor rfl rfl (bxor32 (rotr_lt (n := 7) (by decide) (u32s_get (wAt_ok p i))) (rotr_lt (n := 18) (by decide) (u32s_get (wAt_ok p i))) rfl)) ?_
        refine WP.p rfl rfl rfl rfl (fun _ => Ex.bxor rfl rfl (bxor32 (xor32 (rotr_lt (n := 7) (by decide) (u32s_get (wAt_ok p i))) (rotr_lt (n := 18) (by decide) (u32s_get (wAt_ok p i)))) (Nat.lt_of_le_of_lt (Nat.div_le_self _ _) (u32s_get (wAt_ok p i))) rfl)) ?_
        refine WP.p rfl rfl rfl rfl (fun _ => Ex.add rfl rfl (add32N _ _)) ?_
        refine WP.p rfl rfl rfl rfl (fun _ => Ex.iaA Tryd.underlying165 sz46 rfl rfl ⟨by omega, by omega⟩) ?_
        refine WP.a0 rfl rfl rfl (Ac.st M64 ty46 rfl rfl rfl (i := 0) rfl (by simp [(wAt_ok p i).1]; omega)) ?_; rintro v69 w69 ⟨K69, M69⟩; refine .inl ⟨rfl, Keep nof w69, ?_⟩
        try dsimp only [List.set] at M69
        simp only [Int.toNat_natCast, Nat.mul_one, Nat.zero_add] at M69
        rw [u32V_set, List.set_set] at M69
        refine WP.nil ?_
        refine WX.next ?_
        refine WC.draw (Keep nof w69.drew) [13] (.one 0 0 (.one 1 0 (.one 3 0 (.one 5 0 (.one 8 0 (.one 9 0 (.one 2 1 (.one 4 2 (.one 6 2 (.one 7 0 (.one 10 0 (.one 11 0 (.one 12 0 (.one 13 2 .nil)))))))))))))) mixed (by kernel_rfl) (by kernel_rfl) (by kernel_rfl) (HQ.then_ (HQ.jump HQ.body)) ?_
        obtain ⟨w70, hw70⟩ : ∃ v, v = w69.drew := ⟨_, rfl⟩
        have D70 : Keep nof w69 w70 := by rw [hw70]; exact Keep.drew _ _
        have M70 := M69.step D70
        rw [← hw70]; clear hw70
        refine qC ?_
        refine WP.p rfl rfl rfl rfl (fun _ => Ex.iaA Tryd.underlying165 sz46 rfl rfl ⟨by omega, by omega⟩) ?_
        refine qC ?_
        refine qC ?_
        refine qC ?_
        refine WP.p rfl rfl rfl rfl (fun _ => Ex.shr rfl rfl (m := 10) rfl (shr32 _ _ (by decide))) ?_
        refine WP.q (Keep.refl _ _) rfl rfl rfl rfl (fun w' hS => Ex.load ty46 rfl (hS.cell (M70.cell (i := 0) rfl (u32V_self (by rw [(wAt_ok p i).1]; exact hi) (by simp))) (fun f => f))) ?_
        refine WP.as rfl rfl rfl rfl (Ac.call rfl Tryd.func140 nm140 rfl (rotl_ok w70 _ 17 _ (u32s_get (wAt_ok p i)) (by decide) (by decide) (by decide))) ?_; rintro v78 w78 ⟨rfl, K78⟩
        refine ⟨Keep nof w78, fun u h => K78.trans h, Keep.refl _ _, ?_⟩
        have M78 := M70.step K78
        refine WP.as rfl rfl rfl rfl (Ac.call rfl Tryd.func140 nm140 rfl (rotl_ok w78 _ 19 _ (u32s_get (wAt_ok p i)) (by decide) (by decide) (by decide))) ?_; rintro v79 w79 ⟨rfl, K79⟩
        refine ⟨Keep nof w79, fun u h => K79.trans h, Keep.refl _ _, ?_⟩
        have M79 := M78.step K79
        refine WP.p rfl rfl rfl rfl (fun _ => Ex.bxor rfl rfl (bxor32 (rotr_lt (n := 17) (by decide) (u32s_get (wAt_ok p i))) (rotr_lt (n := 19) (by decide) (u32s_get (wAt_ok p i))) rfl)) ?_
        refine WP.p rfl rfl rfl rfl (fun _ => Ex.bxor rfl rfl (bxor32 (xor32 (rotr_lt (n := 17) (by decide) (u32s_get (wAt_ok p i))) (rotr_lt (n := 19) (by decide) (u32s_get (wAt_ok p i)))) (Nat.lt_of_le_of_lt (Nat.div_le_self _ _) (u32s_get (wAt_ok p i))) rfl)) ?_
        refine WP.p rfl rfl rfl rfl (fun _ => Ex.add rfl rfl (add32N _ _)) ?_
        refine WP.p rfl rfl rfl rfl (fun _ => Ex.iaA Tryd.underlying165 sz46 rfl rfl ⟨by omega, by omega⟩) ?_
        refine WP.a0 rfl rfl rfl (Ac.st M79 ty46 rfl rfl rfl (i := 0) rfl (by simp [(wAt_ok p i).1]; omega)) ?_; rintro v84 w84 ⟨K84, M84⟩; refine .inl ⟨rfl, Keep nof w84, ?_⟩
        try dsimp only [List.set] at M84
        simp only [Int.toNat_natCast, Nat.mul_one, Nat.zero_add] at M84
        rw [u32V_set, List.set_set] at M84
        rw [wAt_hi p hlo2 (by simp only [sg0, sg1]; omega)] at M84
        refine WP.nil ?_
        refine WX.join (()) ?_ (.cons rfl (.cons rfl (.cons rfl (.cons rfl (.nil)))))
        exact M84
    · rintro _ w85 M85
      refine qD ?_
      refine qA ?_
      refine WL.ex rfl rfl rfl (Ex.add rfl rfl (i64w _ (by omega) (by omega))) ?_
      refine qB ?_
      refine qE ?_
      refine WC.seq ?_
      refine qD ?_
      refine qA ?_
      refine WL.ex rfl rfl rfl (Ex.lss rfl rfl) ?_
      refine qE ?_
      refine WC.cond_dec rfl (fun h81 => ?_) (fun h81 => ?_)
      · skip
        refine WC.goto ?_
        refine WX.goto_then (?_)
        refine WX.goto_again (((i + 1, gw) : Nat × Nat)) ?_ ?_ (.cons rfl (.cons rfl (.cons rfl (.cons rfl (.nil)))))
        · (try dsimp only); omega
        · exact ⟨by omega, M85⟩
      · obtain rfl : i = 63 := by omega
        refine WC.skip ?_
        refine WX.next ?_
        refine qD ?_
        refine WL.ex rfl rfl rfl (Ex.loadA ty165 rfl (u32s_len (wAt_ok p 64)) (M85.rdw (i := 0) rfl)) ?_
        refine WL.ac0 rfl rfl (Ac.stA M85 ty165 rfl rfl rfl (u32s_len (wAt_ok p 64)) (u32V_one _) (i := 1) rfl (by rw [u32s_len (wAt_ok p 64), u32s_len (u32s_0 64)]; decide)) ?_; rintro v92 w92 ⟨K92, M92⟩
        try dsimp only [List.set] at M92
        rw [splice_all _ _ (by rw [u32s_len (wAt_ok p 64), u32s_len (u32s_0 64)])] at M92
        refine qE ?_
        refine WC.ret ?_
        refine WX.ret_jump (?_)
        refine WX.retc rfl rfl (run_loadVarA ty165 (by exact u32s_len (wAt_ok p 64)) (M92.rdw (i := 1) rfl)) ?_
        exact ⟨rfl, M92.keep⟩
  · intro hbody
    refine qD ?_
    refine WL.ac rfl rfl rfl (Ac.alloc M1 (l := u32V (List.replicate 64 0)) (by kernel_rfl)) ?_; rintro v93 w93 ⟨g2, rfl, hg93, K93, M93⟩
    refine qE ?_
    refine qD ?_
    refine qB ?_
    refine qE ?_
    refine WC.at_label (WC.sub (.cons rfl (.cons rfl (.cons rfl (.cons rfl (.nil))))) (hbody (((0, g2) : Nat × Nat)) _ ?_))
    exact ⟨by dsimp only; omega, M93⟩

/- (*sponsion/digest.State).take -/
theorem stake_ok (w : World) (g : Nat) (ws : List Nat) (tl : List Value) (A : Option Addr) (c : Nat) (p : List UInt8) (h : (blk g (u32V ws ++ tl) 189).sat w) (hws : U32s 8 ws) (hp : p.length = 64) (hc : 64 ≤ c) (hr : Rd w A (bytesV p)) (hA : ∀ a, A = some a → a.block ≠ g) (hT : Tabs w) (hg : g ≠ 1 ∧ g ≠ 2) :
    Gives Tryd.prog 130 #[.pointer (some ⟨g, 0, none⟩), .slice A 64 c] w fun u w1 => Turn w w1 (blk g (u32V ws ++ tl) 189) (blk g (u32V (comp ws p) ++ tl) 189) := by
  have M0 := Mem.begin h
  obtain ⟨W, hW⟩ : ∃ W, W = wAt p 64 := ⟨_, rfl⟩
  have hW64 : U32s 64 W := by rw [hW]; exact wAt_ok p 64
  have hTab : ∀ {w1 : World}, Keep (· ∈ (blk g (u32V ws ++ tl) 189).fp) w w1 → ∀ {i : Nat}, i < 64 → w1.cell? ⟨2, 0 + ((i : Nat) : Int).toNat * 1, none⟩ = some (.int .u32 ((kTab.getD i 0 : Nat) : Int)) := fun k i hi => k.cell (hT.at_k hi) (by simp only [blk, List.mem_cons, List.not_mem_nil, or_false]; exact fun e => hg.2 e.symm)
  refine Gives.enter (n := 108) Tryd.func130 rfl Tryd.ntmps130 rfl (env := [(0, .pointer (some ⟨g, 0, none⟩)), (1, .slice A 64 c)]) rfl ?_
  refine qD ?_
  refine qA ?_
  refine WL.ex rfl rfl rfl (Ex.nilc rfl) ?_
  refine WL.ex rfl rfl rfl (Ex.fa fl189_0 rfl) ?_
  refine WL.ex rfl rfl rfl (Ex.loadA ty164 rfl (u32s_len hws) (M0.rdt (i := 0) rfl (u32V_pre hws.1))) ?_
  refine WL.ac rfl rfl rfl (Ac.alloc M0 (l := u32V (List.replicate 8 0)) (by kernel_rfl)) ?_; rintro v5 w5 ⟨gl, rfl, hg5, K5, M5⟩
  refine WL.ac0 rfl rfl (Ac.stA M5 ty164 rfl rfl rfl (u32s_len hws) (u32V_one _) (i := 0) rfl (by simp [hws.1])) ?_; rintro v6 w6 ⟨K6, M6⟩
  try dsimp only [List.set] at M6
  rw [splice_all _ _ (by simp [hws.1])] at M6
  refine qE ?_
  refine WC.seq ?_
  refine qD ?_
  refine qA ?_
  refine WL.ac rfl rfl rfl (Ac.call rfl Tryd.func137 nm137 rfl (words_ok w6 A c p hp hc (hr.keep M6.keep (fun a ha hm => by simp only [blk, List.mem_cons, List.not_mem_nil, or_false] at hm; exact hA a ha hm)))) ?_; rintro v8 w8 ⟨rfl, K8⟩
  rw [← hW]
  have M8 := M6.step K8
  refine qA ?_
  refine qE ?_
  refine WC.block ?_
  refine WC.loop (σ := Nat) (fun i => [(0, .pointer (some ⟨g, 0, none⟩)), (4, .pointer (some ⟨gl, 0, none⟩)), (17, .agg (u32V W).toArray), (18, .int .i64 (i : Int))]) (fun i wr => i ≤ 64 ∧ U32s 8 (rAt ws W i) ∧ Mem w wr (· ∈ (blk g (u32V ws ++ tl) 189).fp) [blk gl (u32V (rAt ws W i)) 164, blk g (u32V ws ++ tl) 189]) (fun i => 64 - i) (0) ?_ (.cons rfl (.cons rfl (.cons rfl (.cons rfl (.nil))))) ?_
  · exact ⟨by decide, hws, M8⟩
  rintro i w10 ⟨hi, hR, M10⟩
  refine qD ?_
  refine WL.ex rfl rfl rfl (Ex.lss rfl rfl) ?_
  refine qE ?_
  refine WC.seq ?_
  refine WC.cond_dec rfl (fun hi64 => ?_) (fun hi64 => ?_)
  · have hi64b : i < 64 := by omega
    obtain ⟨a, ha⟩ : ∃ a, a = rAt ws W i := ⟨_, rfl⟩
    have hrs : rAt ws W (i + 1) = rnd a (kTab.getD i 0) (W.getD i 0) := by rw [rAt, ha]
    rw [← ha] at hR M10
    refine WC.skip ?_
    refine WX.next ?_
    refine WC.seq ?_
    refine WC.block ?_
    refine qD ?_
    refine qA ?_
    refine WL.ex rfl rfl rfl (Ex.ixA Tryd.underlying165 ty46 rfl rfl ⟨by omega, by omega⟩ (u32V_at (i := i) (by rw [hW64.1]; omega) (by simp))) ?_
    refine qB ?_
    refine qB ?_
    refine qE ?_
    refine qD ?_
    refine WL.ex rfl rfl rfl (Ex.iaA Tryd.underlying164 sz46 rfl rfl ⟨by omega, by omega⟩) ?_
    refine WL.ex rfl rfl rfl (Ex.load ty46 rfl (M10.cell (i := 0) rfl (u32V_at (i := 4) (by rw [((by first | assumption | exact (u32s_0 8)) : U32s 8 _).1]; decide) rfl))) ?_
    refine WL.ex rfl rfl rfl (Ex.iaA Tryd.underlying164 sz46 rfl rfl ⟨by omega, by omega⟩) ?_
    refine WL.ex rfl rfl rfl (Ex.load ty46 rfl (M10.cell (i := 0) rfl (u32V_at (i := 5) (by rw [((by first | assumption | exact (u32s_0 8)) : U32s 8 _).1]; decide) rfl))) ?_
    refine WL.ex rfl rfl rfl (Ex.band rfl rfl (band32 (by first | exact u32s_get (by assumption) | assumption | exact and32 (by first | exact u32s_get (by assumption) | omega) | omega | exact xor32 (and32 (by first | exact u32s_get (by assumption) | omega)) (and32 (by first | exact u32s_get (by assumption) | omega))) (by first | exact u32s_get (by assumption) | assumption | exact and32 (by first | exact u32s_get (by assumption) | omega) | omega | exact xor32 (and32 (by first | exact u32s_get (by assumption) | omega)) (and32 (by first | exact u32s_get (by assumption) | omega))) rfl)) ?_
    refine WL.ex rfl rfl rfl (Ex.iaA Tryd.underlying164 sz46 rfl rfl ⟨by omega, by omega⟩) ?_
    refine WL.ex rfl rfl rfl (Ex.load ty46 rfl (M10.cell (i := 0) rfl (u32V_at (i := 4) (by rw [((by first | assumption | exact (u32s_0 8)) : U32s 8 _).1]; decide) rfl))) ?_
    refine WL.ex rfl rfl rfl (Ex.com rfl rfl (com32 (u32s_get hR))) ?_
    refine WL.ex rfl rfl rfl (Ex.iaA Tryd.underlying164 sz46 rfl rfl ⟨by omega, by omega⟩) ?_
    refine WL.ex rfl rfl rfl (Ex.load ty46 rfl (M10.cell (i := 0) rfl (u32V_at (i := 6) (by rw [((by first | assumption | exact (u32s_0 8)) : U32s 8 _).1]; decide) rfl))) ?_
    refine WL.ex rfl rfl rfl (Ex.band rfl rfl (band32 (by first | exact u32s_get (by assumption) | assumption | exact and32 (by first | exact u32s_get (by assumption) | omega) | omega | exact xor32 (and32 (by first | exact u32s_get (by assumption) | omega)) (and32 (by first | exact u32s_get (by assumption) | omega))) (by first | exact u32s_get (by assumption) | assumption | exact and32 (by first | exact u32s_get (by assumption) | omega) | omega | exact xor32 (and32 (by first | exact u32s_get (by assumption) | omega)) (and32 (by first | exact u32s_get (by assumption) | omega))) rfl)) ?_
    refine WL.ex rfl rfl rfl (Ex.bxor rfl rfl (c := ((cho (a.getD 4 0) (a.getD 5 0) (a.getD 6 0) : Nat) : Int)) (bxor32 (and32 (u32s_get hR)) (and32 (by omega)) rfl)) ?_
    refine qB ?_
    refine qE ?_
    refine qD ?_
    refine WL.ex rfl rfl rfl (Ex.iaA Tryd.underlying164 sz46 rfl rfl ⟨by omega, by omega⟩) ?_
    refine WL.ex rfl rfl rfl (Ex.load ty46 rfl (M10.cell (i := 0) rfl (u32V_at (i := 0) (by rw [((by first | assumption | exact (u32s_0 8)) : U32s 8 _).1]; decide) rfl))) ?_
    refine WL.ex rfl rfl rfl (Ex.iaA Tryd.underlying164 sz46 rfl rfl ⟨by omega, by omega⟩) ?_
    refine WL.ex rfl rfl rfl (Ex.load ty46 rfl (M10.cell (i := 0) rfl (u32V_at (i := 1) (by rw [((by first | assumption | exact (u32s_0 8)) : U32s 8 _).1]; decide) rfl))) ?_
    refine WL.ex rfl rfl rfl (Ex.band rfl rfl (band32 (by first | exact u32s_get (by assumption) | assumption | exact and32 (by first | exact u32s_get (by assumption) | omega) | omega | exact xor32 (and32 (by first | exact u32s_get (by assumption) | omega)) (and32 (by first | exact u32s_get (by assumption) | omega))) (by first | exact u32s_get (by assumption) | assumption | exact and32 (by first | exact u32s_get (by assumption) | omega) | omega | exact xor32 (and32 (by first | exact u32s_get (by assumption) | omega)) (and32 (by first | exact u32s_get (by assumption) | omega))) rfl)) ?_
    refine WL.ex rfl rfl rfl (Ex.iaA Tryd.underlying164 sz46 rfl rfl ⟨by omega, by omega⟩) ?_
    refine WL.ex rfl rfl rfl (Ex.load ty46 rfl (M10.cell (i := 0) rfl (u32V_at (i := 0) (by rw [((by first | assumption | exact (u32s_0 8)) : U32s 8 _).1]; decide) rfl))) ?_
    refine WL.ex rfl rfl rfl (Ex.iaA Tryd.underlying164 sz46 rfl rfl ⟨by omega, by omega⟩) ?_
    refine WL.ex rfl rfl rfl (Ex.load ty46 rfl (M10.cell (i := 0) rfl (u32V_at (i := 2) (by rw [((by first | assumption | exact (u32s_0 8)) : U32s 8 _).1]; decide) rfl))) ?_
    refine WL.ex rfl rfl rfl (Ex.band rfl rfl (band32 (by first | exact u32s_get (by assumption) | assumption | exact and32 (by first | exact u32s_get (by assumption) | omega) | omega | exact xor32 (and32 (by first | exact u32s_get (by assumption) | omega)) (and32 (by first | exact u32s_get (by assumption) | omega))) (by first | exact u32s_get (by assumption) | assumption | exact and32 (by first | exact u32s_get (by assumption) | omega) | omega | exact xor32 (and32 (by first | exact u32s_get (by assumption) | omega)) (and32 (by first | exact u32s_get (by assumption) | omega))) rfl)) ?_
    refine WL.ex rfl rfl rfl (Ex.bxor rfl rfl (bxor32 (and32 (u32s_get hR)) (and32 (u32s_get hR)) rfl)) ?_
    refine WL.ex rfl rfl rfl (Ex.iaA Tryd.underlying164 sz46 rfl rfl ⟨by omega, by omega⟩) ?_
    refine WL.ex rfl rfl rfl (Ex.load ty46 rfl (M10.cell (i := 0) rfl (u32V_at (i := 1) (by rw [((by first | assumption | exact (u32s_0 8)) : U32s 8 _).1]; decide) rfl))) ?_
    refine WL.ex rfl rfl rfl (Ex.iaA Tryd.underlying164 sz46 rfl rfl ⟨by omega, by omega⟩) ?_
    refine WL.ex rfl rfl rfl (Ex.load ty46 rfl (M10.cell (i := 0) rfl (u32V_at (i := 2) (by rw [((by first | assumption | exact (u32s_0 8)) : U32s 8 _).1]; decide) rfl))) ?_
    refine WL.ex rfl rfl rfl (Ex.band rfl rfl (band32 (by first | exact u32s_get (by assumption) | assumption | exact and32 (by first | exact u32s_get (by assumption) | omega) | omega | exact xor32 (and32 (by first | exact u32s_get (by assumption) | omega)) (and32 (by first | exact u32s_get (by assumption) | omega))) (by first | exact u32s_get (by assumption) | assumption | exact and32 (by first | exact u32s_get (by assumption) | omega) | omega | exact xor32 (and32 (by first | exact u32s_get (by assumption) | omega)) (and32 (by first | exact u32s_get (by assumption) | omega))) rfl)) ?_
    refine WL.ex rfl rfl rfl (Ex.bxor rfl rfl (c := ((maj (a.getD 0 0) (a.getD 1 0) (a.getD 2 0) : Nat) : Int)) (bxor32 (xor32 (and32 (u32s_get hR)) (and32 (u32s_get hR))) (and32 (u32s_get hR)) rfl)) ?_
    refine qB ?_
    refine qE ?_
    refine WC.seq ?_
    refine WC.draw (Keep nof w10.drew) [] (.one 0 0 (.one 2 0 (.one 6 0 (.one 8 0 (.one 9 0 (.one 12 0 (.one 1 1 (.one 3 1 (.one 10 1 (.one 4 2 (.one 5 0 (.one 7 0 (.one 11 0 (.one 13 0 (.one 14 0 .nil))))))))))))))) mixed (by kernel_rfl) (by kernel_rfl) (by kernel_rfl) (HQ.then_ (HQ.block (HQ.then_ (HQ.then_ (HQ.block (HQ.then_ HQ.body)))))) ?_
    obtain ⟨w47, hw47⟩ : ∃ v, v = w10.drew := ⟨_, rfl⟩
    have D47 : Keep nof w10 w47 := by rw [hw47]; exact Keep.drew _ _
    have M47 := M10.step D47
    rw [← hw47]; clear hw47
    refine WP.p rfl rfl rfl rfl (fun _ => Ex.iaA Tryd.underlying164 sz46 rfl rfl ⟨by omega, by omega⟩) ?_
    refine WP.p rfl rfl rfl rfl (fun _ => Ex.iaA Tryd.underlying164 sz46 rfl rfl ⟨by omega, by omega⟩) ?_
    refine qC ?_
    refine qC ?_
    refine WP.p rfl rfl rfl rfl (fun _ => Ex.iaA Tryd.underlying165 sz46 rfl rfl ⟨by omega, by omega⟩) ?_
    refine qC ?_
    refine WP.q (Keep.refl _ _) rfl rfl rfl rfl (fun w' hS => Ex.load ty46 rfl (hS.cell (M47.cell (i := 0) rfl (u32V_at (i := 7) (by rw [((by first | assumption | exact (u32s_0 8)) : U32s 8 _).1]; decide) rfl)) (fun f => f))) ?_
    refine WP.q (Keep.refl _ _) rfl rfl rfl rfl (fun w' hS => Ex.load ty46 rfl (hS.cell (M47.cell (i := 0) rfl (u32V_at (i := 4) (by rw [((by first | assumption | exact (u32s_0 8)) : U32s 8 _).1]; decide) rfl)) (fun f => f))) ?_
    refine WP.q (Keep.refl _ _) rfl rfl rfl rfl (fun w' hS => Ex.load ty46 rfl (hTab (M47.keep.trans hS.any) hi64b)) ?_
    refine WP.as rfl rfl rfl rfl (Ac.call rfl Tryd.func138 nm138 rfl (turned_ok w47 _ 6 11 25 (u32s_get hR) (by decide) (by decide) (by decide))) ?_; rintro v57 w57 ⟨rfl, K57⟩
    refine ⟨Keep nof w57, fun u h => K57.trans h, Keep.refl _ _, ?_⟩
    have M57 := M47.step K57
    refine WP.p rfl rfl rfl rfl (fun _ => Ex.add rfl rfl (add32N _ _)) ?_
    refine WP.p rfl rfl rfl rfl (fun _ => Ex.add rfl rfl (add32N _ _)) ?_
    refine WP.p rfl rfl rfl rfl (fun _ => Ex.add rfl rfl (add32N _ _)) ?_
    refine WP.p rfl rfl rfl rfl (fun _ => Ex.add rfl rfl (add32N _ _)) ?_
    refine WP.p rfl rfl rfl rfl (fun _ => Ex.asg rfl) ?_
    refine WP.nil ?_
    refine WX.next ?_
    refine qD ?_
    refine WL.ex rfl rfl rfl (Ex.iaA Tryd.underlying164 sz46 rfl rfl ⟨by omega, by omega⟩) ?_
    refine WL.ex rfl rfl rfl (Ex.load ty46 rfl (M57.cell (i := 0) rfl (u32V_at (i := 0) (by rw [((by first | assumption | exact (u32s_0 8)) : U32s 8 _).1]; decide) rfl))) ?_
    refine WL.ac rfl rfl rfl (Ac.call rfl Tryd.func138 nm138 rfl (turned_ok w57 _ 2 13 22 (u32s_get hR) (by decide) (by decide) (by decide))) ?_; rintro v65 w65 ⟨rfl, K65⟩
    have M65 := M57.step K65
    refine qA ?_
    refine WL.ex rfl rfl rfl (Ex.add rfl rfl (add32N _ _)) ?_
    refine qB ?_
    refine qE ?_
    refine WC.region ?_
    refine qA ?_
    refine qA ?_
    refine WL.ex rfl rfl rfl (Ex.add rfl rfl (add32N _ _)) ?_
    refine WL.ex rfl rfl rfl (Ex.iaA Tryd.underlying164 sz46 rfl rfl ⟨by omega, by omega⟩) ?_
    refine WL.ex rfl rfl rfl (Ex.load ty46 rfl (M65.cell (i := 0) rfl (u32V_at (i := 0) (by rw [((by first | assumption | exact (u32s_0 8)) : U32s 8 _).1]; decide) rfl))) ?_
    refine WL.ex rfl rfl rfl (Ex.iaA Tryd.underlying164 sz46 rfl rfl ⟨by omega, by omega⟩) ?_
    refine WL.ex rfl rfl rfl (Ex.load ty46 rfl (M65.cell (i := 0) rfl (u32V_at (i := 1) (by rw [((by first | assumption | exact (u32s_0 8)) : U32s 8 _).1]; decide) rfl))) ?_
    refine WL.ex rfl rfl rfl (Ex.iaA Tryd.underlying164 sz46 rfl rfl ⟨by omega, by omega⟩) ?_
    refine WL.ex rfl rfl rfl (Ex.load ty46 rfl (M65.cell (i := 0) rfl (u32V_at (i := 2) (by rw [((by first | assumption | exact (u32s_0 8)) : U32s 8 _).1]; decide) rfl))) ?_
    refine WL.ex rfl rfl rfl (Ex.iaA Tryd.underlying164 sz46 rfl rfl ⟨by omega, by omega⟩) ?_
    refine WL.ex rfl rfl rfl (Ex.load ty46 rfl (M65.cell (i := 0) rfl (u32V_at (i := 3) (by rw [((by first | assumption | exact (u32s_0 8)) : U32s 8 _).1]; decide) rfl))) ?_
    refine qA ?_
    refine WL.ex rfl rfl rfl (Ex.add rfl rfl (add32N _ _)) ?_
    refine WL.ex rfl rfl rfl (Ex.iaA Tryd.underlying164 sz46 rfl rfl ⟨by omega, by omega⟩) ?_
    refine WL.ex rfl rfl rfl (Ex.load ty46 rfl (M65.cell (i := 0) rfl (u32V_at (i := 4) (by rw [((by first | assumption | exact (u32s_0 8)) : U32s 8 _).1]; decide) rfl))) ?_
    refine WL.ex rfl rfl rfl (Ex.iaA Tryd.underlying164 sz46 rfl rfl ⟨by omega, by omega⟩) ?_
    refine WL.ex rfl rfl rfl (Ex.load ty46 rfl (M65.cell (i := 0) rfl (u32V_at (i := 5) (by rw [((by first | assumption | exact (u32s_0 8)) : U32s 8 _).1]; decide) rfl))) ?_
    refine WL.ex rfl rfl rfl (Ex.iaA Tryd.underlying164 sz46 rfl rfl ⟨by omega, by omega⟩) ?_
    refine WL.ex rfl rfl rfl (Ex.load ty46 rfl (M65.cell (i := 0) rfl (u32V_at (i := 6) (by rw [((by first | assumption | exact (u32s_0 8)) : U32s 8 _).1]; decide) rfl))) ?_
    refine WL.ex rfl rfl rfl (Ex.bldS bd164 (parts := [(0, .tmp 72), (1, .tmp 74), (2, .tmp 76), (3, .tmp 78), (4, .tmp 82), (5, .tmp 84), (6, .tmp 86), (7, .tmp 88)]) _ rfl rfl rfl bld8) ?_
    refine WL.ac0 rfl rfl (Ac.stA M65 ty164 rfl rfl rfl rfl (u32V_one _) (i := 0) rfl (by simp [hR.1, u32V])) ?_; rintro v89 w89 ⟨K89, M89⟩
    try dsimp only [List.set] at M89
    rw [splice_all _ _ (by simp [hR.1, u32V])] at M89
    replace M89 := M89.eqv (i := 0) rfl (r' := blk gl (u32V (rAt ws W (i + 1))) 164) (congrArg (fun x => blk gl (u32V x) 164) (by rw [hrs]; simp only [rnd, List.cons.injEq, and_true, true_and]; constructor <;> omega))
    try dsimp only [List.set] at M89
    refine WL.nil ?_
    refine WX.normal_block (WX.next (?_))
    refine WC.region ?_
    refine WL.ex rfl rfl rfl (Ex.add rfl rfl (i64w _ (by omega) (by omega))) ?_
    refine qA ?_
    refine WL.nil ?_
    refine WX.again (i + 1) ?_ ?_ (.cons rfl (.cons rfl (.cons rfl (.cons rfl (.nil)))))
    · (try dsimp only); omega
    · exact ⟨by omega, by rw [hrs]; exact rnd_ok hR _ _, M89⟩
  · obtain rfl : i = 64 := by omega
    refine WC.exit ?_
    refine WX.exit_then (WX.exit_then (WX.exit_block (WX.next (?_))))
    refine qD ?_
    refine qA ?_
    refine qE ?_
    refine WC.block ?_
    refine WC.loop (σ := Nat) (fun i => [(0, .pointer (some ⟨g, 0, none⟩)), (4, .pointer (some ⟨gl, 0, none⟩)), (91, .int .i64 (i : Int))]) (fun i wr => i ≤ 8 ∧ Mem w wr (· ∈ (blk g (u32V ws ++ tl) 189).fp) [blk gl (u32V (rAt ws W 64)) 164, blk g (u32V (addT ws (rAt ws W 64) i) ++ tl) 189]) (fun i => 8 - i) (0) ?_ (.cons rfl (.cons rfl (.cons rfl (.nil)))) ?_
    · exact ⟨by decide, by rw [addT_0 hws.1]; exact M10⟩
    rintro i w93 ⟨hi, M93⟩
    refine qD ?_
    refine WL.ex rfl rfl rfl (Ex.lss rfl rfl) ?_
    refine qE ?_
    refine WC.seq ?_
    refine WC.cond_dec rfl (fun hi8 => ?_) (fun hi8 => ?_)
    · have hi8b : i < 8 := by omega
      have hRl := (rAt_ok hws W 64).1
      have hal : (addT ws (rAt ws W 64) i).length = 8 := by simp [addT]
      refine WC.skip ?_
      refine WX.next ?_
      refine WC.seq ?_
      refine WC.block ?_
      refine qD ?_
      refine qA ?_
      refine qB ?_
      refine qE ?_
      refine WC.draw (Keep nof w93.drew) [13] (.one 0 0 (.one 1 0 (.one 2 0 (.one 3 0 (.one 4 0 (.one 6 0 (.one 7 0 (.one 10 0 (.one 11 0 (.one 5 1 (.one 8 1 (.one 9 0 (.one 12 0 (.one 13 2 .nil)))))))))))))) mixed (by kernel_rfl) (by kernel_rfl) (by kernel_rfl) (HQ.block (HQ.then_ (HQ.then_ (HQ.block HQ.body)))) ?_
      obtain ⟨w97, hw97⟩ : ∃ v, v = w93.drew := ⟨_, rfl⟩
      have D97 : Keep nof w93 w97 := by rw [hw97]; exact Keep.drew _ _
      have M97 := M93.step D97
      rw [← hw97]; clear hw97
      refine qC ?_
      refine qC ?_
      refine WP.p rfl rfl rfl rfl (fun _ => Ex.nilc rfl) ?_
      refine WP.p rfl rfl rfl rfl (fun _ => Ex.fa fl189_0 rfl) ?_
      refine WP.p rfl rfl rfl rfl (fun _ => Ex.iaA Tryd.underlying164 sz46 rfl rfl ⟨by omega, by omega⟩) ?_
      refine qC ?_
      refine WP.p rfl rfl rfl rfl (fun _ => Ex.iaA Tryd.underlying164 sz46 rfl rfl ⟨by omega, by omega⟩) ?_
      refine WP.p rfl rfl rfl rfl (fun _ => Ex.nilc rfl) ?_
      refine WP.p rfl rfl rfl rfl (fun _ => Ex.fa fl189_0 rfl) ?_
      refine WP.q (Keep.refl _ _) rfl rfl rfl rfl (fun w' hS => Ex.load ty46 rfl (hS.cell (M97.cell (i := 1) rfl (u32V_atL (i := i) (by rw [hal]; omega) (by simp))) (fun f => f))) ?_
      refine WP.q (Keep.refl _ _) rfl rfl rfl rfl (fun w' hS => Ex.load ty46 rfl (hS.cell (M97.cell (i := 0) rfl (u32V_at (i := i) (by rw [hRl]; omega) (by simp))) (fun f => f))) ?_
      refine WP.p rfl rfl rfl rfl (fun _ => Ex.add rfl rfl (add32N _ _)) ?_
      refine WP.p rfl rfl rfl rfl (fun _ => Ex.iaA Tryd.underlying164 sz46 rfl rfl ⟨by omega, by omega⟩) ?_
      refine WP.a0 rfl rfl rfl (Ac.st M97 ty46 rfl rfl rfl (i := 1) rfl (by simp [hal]; omega)) ?_; rintro v111 w111 ⟨K111, M111⟩; refine .inl ⟨rfl, Keep nof w111, ?_⟩
      try dsimp only [List.set] at M111
      simp only [Int.toNat_natCast, Nat.mul_one, Nat.zero_add] at M111
      rw [u32V_setL (by rw [hal]; omega), addT_get hi8b, if_neg (by omega), addT_set hi8b] at M111
      refine WP.nil ?_
      refine WX.normal_block (WX.next (?_))
      refine WC.region ?_
      refine WL.ex rfl rfl rfl (Ex.add rfl rfl (i64w _ (by omega) (by omega))) ?_
      refine qA ?_
      refine WL.nil ?_
      refine WX.again (i + 1) ?_ ?_ (.cons rfl (.cons rfl (.cons rfl (.nil))))
      · (try dsimp only); omega
      · exact ⟨by omega, M111⟩
    · obtain rfl : i = 8 := by omega
      have hcomp : addT ws (rAt ws W 64) 8 = comp ws p := by rw [comp, hW]
      rw [hcomp] at M93
      refine WC.exit ?_
      refine WX.exit_then (WX.exit_then (WX.exit_block (?_)))
      refine WX.end0 rfl ?_
      exact (Mem.sub M93 (.cons _ (.refl _))).toTurn

/- sponsion/digest.New -/
theorem dnew_ok (w : World) (hT : Tabs w) :
    Gives Tryd.prog 113 #[] w fun u w1 => ∃ g v, u = .pointer (some ⟨g, 0, none⟩) ∧ New w w1 (stR g v []) := by
  have M0 := (Mem.start w nof).free (r := mrw (.slice none 0 0) 5 (bytesV (stB []))) (mrw_nil _ _) rfl
  refine Gives.enter (n := 4) Tryd.func113 rfl Tryd.ntmps113 rfl (env := []) rfl ?_
  refine qD ?_
  refine qB ?_
  refine qE ?_
  refine qD ?_
  refine WL.ex rfl rfl rfl (Ex.loadA ty164 rfl (l := u32V hBeg) rfl (hT.keep M0.keep).beg) ?_
  refine WL.ex rfl rfl rfl (Ex.bldS bd189 (parts := [(0, .tmp 1)]) [u32V hBeg] (l := stC (stW []) (.slice none 0 0) 0) rfl rfl rfl ⟨0, 8, rfl, rfl, rfl, by simp, rfl⟩) ?_
  refine WL.ac rfl rfl rfl (Ac.box M0 rfl rfl) ?_; rintro v4 w4 ⟨g, rfl, hg4, K4, M4⟩
  replace M4 := M4.closeS
  refine qB ?_
  refine qE ?_
  refine WC.ret ?_
  refine WX.ret1 rfl rfl ?_
  exact ⟨g, _, rfl, M4.toNew⟩

/- (*sponsion/digest.State).Add -/
theorem sadd_ok (w : World) (g : Nat) (v0 : Value) (l : List UInt8) (A : Option Addr) (c : Nat) (ps : List SV) (h : (stR g v0 l).sat w) (hr : RdA w (stR g v0 l).fp A ps) (hT : Tabs w) (hg : g ≠ 1 ∧ g ≠ 2) (hb : l.length + (flatP ps).length ≤ 1099511627776) (hps : ps.length ≤ 1099511627776) (hFT : ∀ b ∈ (stR g v0 l).fp, b ≠ 1 ∧ b ≠ 2) :
    Gives Tryd.prog 114 #[.pointer (some ⟨g, 0, none⟩), .slice A ps.length c] w fun u w1 => u = .pointer (some ⟨g, 0, none⟩) ∧ ∃ v1, Turn w w1 (stR g v0 l) (stR g v1 (l ++ flatP ps)) := by
  have M0 := (Mem.begin h).openS
  have hws := (stW_ok l).1
  refine Gives.enter (n := 55) Tryd.func114 rfl Tryd.ntmps114 rfl (env := [(0, .pointer (some ⟨g, 0, none⟩)), (1, .slice A ps.length c)]) rfl ?_
  refine qD ?_
  refine qB ?_
  refine qE ?_
  refine WC.seq ?_
  refine qD ?_
  refine qA ?_
  refine WL.ex rfl rfl rfl (Ex.len Tryd.underlying153 rfl) ?_
  refine qA ?_
  refine qE ?_
  refine WC.block ?_
  refine WC.loop (σ := Nat × Value) (fun s => [(0, .pointer (some ⟨g, 0, none⟩)), (7, .slice A ps.length c), (8, .int .i64 (ps.length : Int)), (9, .int .i64 (s.1 : Int))]) (fun s wr => s.1 ≤ ps.length ∧ Mem w wr (· ∈ (stR g v0 l).fp) [blk g (stC (stW l) s.2 (l.length + (flatP (ps.take s.1)).length)) 189, mrw s.2 5 (bytesV (stB l ++ flatP (ps.take s.1)))]) (fun s => ps.length - s.1) (((0, v0) : Nat × Value)) ?_ (.cons rfl (.cons rfl (.cons rfl (.cons rfl (.nil))))) ?_
  · refine ⟨by dsimp only; omega, ?_⟩
    simpa [flatP] using M0
  rintro ⟨i, v⟩ w5 ⟨hi, M5⟩
  dsimp only at hi M5
  refine WC.sub (env' := [(0, .pointer (some ⟨g, 0, none⟩)), (7, .slice A ps.length c), (8, .int .i64 (ps.length : Int)), (9, .int .i64 (i : Int))]) (.cons rfl (.cons rfl (.cons rfl (.cons rfl (.nil))))) ?_
  refine qD ?_
  refine WL.ex rfl rfl rfl (Ex.lss rfl rfl) ?_
  refine qE ?_
  refine WC.seq ?_
  refine WC.cond_dec rfl (fun hin => ?_) (fun hin => ?_)
  · obtain ⟨p, hpi⟩ : ∃ p, ps[i]? = some p := ⟨_, List.getElem?_eq_getElem (by omega)⟩
    have hpm : p ∈ ps := List.mem_of_getElem? hpi
    have hsn := flatP_snoc hpi
    have hle := flatP_take_le ps (i + 1)
    rw [hsn, List.length_append] at hle
    obtain ⟨b0, o0, hA, _⟩ := hr.rd.1.plain (by simp; omega)
    subst hA
    have hbl := stB_length l
    refine WC.skip ?_
    refine WX.next ?_
    refine WC.seq ?_
    refine WC.block ?_
    refine qD ?_
    refine WL.ex rfl rfl rfl (Ex.ia Tryd.underlying153 sz112 rfl rfl ⟨by omega, by omega⟩) ?_
    refine WL.ex rfl rfl rfl (Ex.load ty112 rfl (Rd.at1 (u := svV p) (hr.row M5.keep) (j := (i : Int).toNat * 1) (by simp [hpi]))) ?_
    refine qB ?_
    refine qE ?_
    refine qD ?_
    refine qA ?_
    refine WL.ex rfl rfl rfl (Ex.nilc rfl) ?_
    refine WL.ex rfl rfl rfl (Ex.fa fl189_2 rfl) ?_
    refine WL.ex rfl rfl rfl (Ex.load ty23 rfl (M5.cell (i := 0) rfl (stC_9 hws _ _))) ?_
    refine qA ?_
    refine WL.ex rfl rfl rfl (Ex.len Tryd.underlying112 rfl) ?_
    refine WL.ex rfl rfl rfl (Ex.cvI Tryd.underlying3 Tryd.underlying23 rfl (u64w_lt _ (by omega))) ?_
    refine WL.ex rfl rfl rfl (Ex.add rfl rfl (c := ((l.length + (flatP (ps.take i)).length + p.l.length : Nat) : Int)) (by rw [show ((l.length + (flatP (ps.take i)).length : Nat) : Int) + (p.l.length : Int) = ((l.length + (flatP (ps.take i)).length + p.l.length : Nat) : Int) by omega]; exact u64w_lt _ (by omega))) ?_
    refine WL.ex rfl rfl rfl (Ex.nilc rfl) ?_
    refine WL.ex rfl rfl rfl (Ex.fa fl189_2 rfl) ?_
    refine WL.ac0 rfl rfl (Ac.st M5 ty23 rfl rfl rfl (i := 0) rfl (by rw [stC_len hws]; decide)) ?_; rintro v20 w20 ⟨K20, M20⟩
    try dsimp only [List.set] at M20
    replace M20 := M20.eqv (i := 0) rfl (r' := blk g (stC (stW l) v (l.length + (flatP (ps.take i)).length + p.l.length)) 189) (congrArg (fun x => blk g x 189) (stC_s9 hws _ _ _))
    try dsimp only [List.set] at M20
    refine qE ?_
    refine WC.region ?_
    refine qA ?_
    refine qA ?_
    refine WL.ex rfl rfl rfl (Ex.nilc rfl) ?_
    refine WL.ex rfl rfl rfl (Ex.fa fl189_1 rfl) ?_
    refine WL.ex rfl rfl rfl (Ex.load ty112 rfl (M20.cell (i := 0) rfl (stC_8 hws _ _))) ?_
    refine qA ?_
    refine WL.ac rfl rfl rfl (Ac.appm M20 el112 rfl rfl (i := 1) rfl (by simp) (hr.part M20.keep hpm) (bytesV_one _) (by simp; omega) (by simp [maxLen]; omega)) ?_; rintro v27 w27 ⟨K27, M27⟩
    try dsimp only [List.set] at M27
    obtain ⟨v3, rfl⟩ : ∃ v3, v3 = v27 := ⟨_, rfl⟩
    rw [← bytesV_append, List.append_assoc, ← hsn] at M27
    refine WL.ex rfl rfl rfl (Ex.nilc rfl) ?_
    refine WL.ex rfl rfl rfl (Ex.fa fl189_1 rfl) ?_
    refine WL.ac0 rfl rfl (Ac.st M27 ty112 rfl rfl (by obtain ⟨_, _, hv⟩ := mrw_len (M27.get (i := 1) rfl); rw [hv]; rfl) (i := 0) rfl (by rw [stC_len hws]; decide)) ?_; rintro v30 w30 ⟨K30, M30⟩
    try dsimp only [List.set] at M30
    replace M30 := M30.eqv (i := 0) rfl (r' := blk g _ 189) (congrArg (fun x => blk g x 189) (stC_s8 hws _ _ _))
    try dsimp only [List.set] at M30
    rw [Nat.add_assoc, ← List.length_append, ← hsn] at M30
    refine WL.nil ?_
    refine WX.normal_block (WX.next (?_))
    refine WC.region ?_
    refine WL.ex rfl rfl rfl (Ex.add rfl rfl (i64w _ (by omega) (by omega))) ?_
    refine qA ?_
    refine WL.nil ?_
    refine WX.again (((i + 1, v3) : Nat × Value)) ?_ ?_ (.cons rfl (.cons rfl (.cons rfl (.cons rfl (.nil)))))
    · (try dsimp only); omega
    · exact ⟨by dsimp only; omega, M30⟩
  · obtain rfl : i = ps.length := by omega
    rw [List.take_length] at M5
    refine WC.exit ?_
    refine WX.exit_then (WX.exit_then (WX.exit_block (WX.next (?_))))
    refine WC.seq ?_
    refine WC.block ?_
    obtain ⟨R, hR⟩ : ∃ R, R = stB l ++ flatP ps := ⟨_, rfl⟩
    rw [← hR] at M5
    have hRl : R.length = l.length % 64 + (flatP ps).length := by rw [hR, List.length_append, stB_length]
    refine WC.loop (σ := Nat × Value) (fun s => [(0, .pointer (some ⟨g, 0, none⟩))]) (fun s wr => 64 * s.1 ≤ R.length ∧ Mem w wr (· ∈ (stR g v0 l).fp) [blk g (stC (comps s.1 (stW l) R) s.2 (l.length + (flatP ps).length)) 189, mrw s.2 5 (bytesV (R.drop (64 * s.1)))]) (fun s => R.length - 64 * s.1) (((0, v) : Nat × Value)) ?_ (.cons rfl (.nil)) ?_
    · refine ⟨by dsimp only; omega, ?_⟩
      simpa [comps] using M5
    rintro ⟨k, v⟩ w33 ⟨hk, M33⟩
    dsimp only at hk M33
    refine WC.sub (env' := [(0, .pointer (some ⟨g, 0, none⟩))]) (.cons rfl (.nil)) ?_
    refine WC.seq ?_
    refine qD ?_
    refine qA ?_
    refine WL.ex rfl rfl rfl (Ex.nilc rfl) ?_
    refine WL.ex rfl rfl rfl (Ex.fa fl189_1 rfl) ?_
    have hwk := comps_ok k (stW_ok l) R
    obtain ⟨A2, c2, hv2⟩ := mrw_len (M33.get (i := 1) rfl)
    subst hv2
    refine WL.ex rfl rfl rfl (Ex.load ty112 rfl (M33.cell (i := 0) rfl (stC_8 hwk.1 _ _))) ?_
    refine WL.ex rfl rfl rfl (Ex.len Tryd.underlying112 rfl) ?_
    refine WL.ex rfl rfl rfl (Ex.geq rfl rfl) ?_
    refine qE ?_
    refine WC.cond_dec rfl (fun h64 => ?_) (fun h64 => ?_)
    · have h64b : 64 * k + 64 ≤ R.length := by simp at h64; omega
      have hc2 := mrw_cap (M33.get (i := 1) rfl)
      simp only [bytesV_length, List.length_drop] at hc2
      have hrd := mrw_rd (M33.get (i := 1) rfl)
      have hne := M33.apart (i := 0) (j := 1) rfl rfl (by decide) g (by simp [blk])
      refine WC.skip ?_
      refine WX.next ?_
      refine WC.block ?_
      refine qD ?_
      refine qA ?_
      refine qA ?_
      refine WL.ex rfl rfl rfl (Ex.nilc rfl) ?_
      refine WL.ex rfl rfl rfl (Ex.fa fl189_1 rfl) ?_
      refine WL.ex rfl rfl rfl (Ex.load ty112 rfl (M33.cell (i := 0) rfl (stC_8 hwk.1 _ _))) ?_
      refine WL.ex rfl rfl rfl (Ex.slh (A := A2) (c := c2) Tryd.underlying112 sz5 rfl rfl (by omega) (by omega)) ?_
      refine WL.ac rfl rfl rfl (Ac.call rfl Tryd.func130 nm130 rfl (stake_ok w33 g (comps k (stW l) R) _ A2 c2 ((R.drop (64 * k)).take 64) (M33.get (i := 0) rfl) hwk (by simp; omega) (by omega) (by have := hrd.take 64; simpa [bytesV] using this) (fun a ha hb => hne (by subst ha; simp [mrw, Value.ownBlock, hb])) (hT.keepF M33.keep hFT) hg)) ?_; rintro v46 w46 T46
      have M46 := M33.turned (i := 0) rfl T46
      try dsimp only [List.set] at M46
      replace M46 := M46.eqv (i := 0) rfl (r' := blk g (stC (comps (k + 1) (stW l) R) _ (l.length + (flatP ps).length)) 189) (by rw [comps_succ]; rfl)
      try dsimp only [List.set] at M46
      have hwk1 := comps_ok (k + 1) (stW_ok l) R
      refine qE ?_
      refine WC.region ?_
      refine qA ?_
      refine qA ?_
      refine WL.ex rfl rfl rfl (Ex.nilc rfl) ?_
      refine WL.ex rfl rfl rfl (Ex.fa fl189_1 rfl) ?_
      refine WL.ex rfl rfl rfl (Ex.load ty112 rfl (M46.cell (i := 0) rfl (stC_8 hwk1.1 _ _))) ?_
      refine WL.ex rfl rfl rfl (Ex.sll (A := A2) (c := c2) Tryd.underlying112 sz5 rfl rfl (by decide) (by simp; omega)) ?_
      obtain ⟨v4, hv4⟩ : ∃ v4, v4 = Value.slice (if c2 = (64 : Int).toNat then A2 else A2.map (·.add ((64 : Int).toNat * 1))) ((bytesV (R.drop (64 * k))).length - (64 : Int).toNat) (c2 - (64 : Int).toNat) := ⟨_, rfl⟩
      rw [← hv4]
      refine WL.ex rfl rfl rfl (Ex.nilc rfl) ?_
      refine WL.ex rfl rfl rfl (Ex.fa fl189_1 rfl) ?_
      refine WL.ac0 rfl rfl (Ac.st M46 ty112 rfl rfl (by rw [hv4]; rfl) (i := 0) rfl (by rw [stC_len hwk1.1]; decide)) ?_; rintro v55 w55 ⟨K55, M55⟩
      try dsimp only [List.set] at M55
      replace M55 := M55.eqv (i := 0) rfl (r' := blk g (stC (comps (k + 1) (stW l) R) v4 (l.length + (flatP ps).length)) 189) (congrArg (fun x => blk g x 189) (stC_s8 hwk1.1 _ _ _))
      try dsimp only [List.set] at M55
      replace M55 := M55.view (i := 1) rfl (r' := mrw v4 5 (bytesV (R.drop (64 * (k + 1))))) (fun h => mrw_mv (mrw_drop h (k := 64) (by simp; omega)) hv4.symm (by simp [bytesV, Nat.mul_add])) (fun b hb => by rw [hv4] at hb; exact mrw_drop_fp hb)
      try dsimp only [List.set] at M55
      refine WL.nil ?_
      refine WX.normal_block (?_)
      refine WX.again (((k + 1, v4) : Nat × Value)) ?_ ?_ (.cons rfl (.nil))
      · (try dsimp only); omega
      · exact ⟨by dsimp only; omega, M55⟩
    · have h64b : R.length < 64 * k + 64 := by simp at h64; omega
      obtain rfl : k = R.length / 64 := by omega
      refine WC.exit ?_
      refine WX.exit_then (WX.exit_then (WX.exit_block (WX.next (?_))))
      refine qD ?_
      refine qA ?_
      refine qB ?_
      refine qE ?_
      refine WC.ret ?_
      refine WX.ret1 rfl rfl ?_
      have hsm := st_more l (flatP ps)
      rw [← hR] at hsm
      rw [← hsm.1, ← hsm.2, ← List.length_append] at M33
      exact ⟨rfl, _, (M33.closeS).toTurn⟩

end Go.Proofs.YtchmjpdkonfifaaDoor

set_option linter.unusedVariables false
set_option linter.unusedSimpArgs false
namespace Go.Proofs.YtchmjpdkonfifaaDoor
open Go.Sx Go.RowKit
attribute [local irreducible] Ac Ex WL WC WX WP Gives

/- bytes.Clone -/
theorem clone_ok (w : World) (A : Option Addr) (c : Nat) (l : List UInt8) (hr : Rd w A (bytesV l)) (hb : l.length ≤ 70368744177664) :
    Gives Tryd.prog 105 #[.slice A l.length c] w fun v w' => New w w' (row v 5 1 l.length (bytesV l)) := by
  have M0 := Mem.start w nof
  refine Gives.enter (n := 8) Tryd.func105 rfl Tryd.ntmps105 rfl (env := [(0, .slice A l.length c)]) rfl ?_
  refine qD ?_
  refine qB ?_
  refine qE ?_
  refine WC.seq ?_
  refine qD ?_
  refine qA ?_
  refine WL.ex rfl rfl rfl (Ex.eqN Tryd.underlying112 rfl) ?_
  refine qE ?_
  refine WC.cond rfl (fun hc => ?_) (fun hc => ?_)
  · have hl : l = [] := by
      cases l with
      | nil => rfl
      | cons b r => obtain ⟨a, ha, _⟩ := hr 0 (byteV b) rfl; subst ha; cases hc
    subst hl
    refine qD ?_
    refine qB ?_
    refine qE ?_
    refine WC.ret ?_
    refine WX.ret_then (?_)
    refine WX.ret1 rfl rfl ?_
    first | exact M0.toNew | exact (M0.free (r := row (.slice none 0 0) 5 1 0 []) (row_nil _ _ _) rfl).toNew
  · skip
    refine WC.skip ?_
    refine WX.next ?_
    refine qD ?_
    refine WL.ac rfl rfl rfl (Ac.bs0 M0 Tryd.underlying112 sz5) ?_; rintro v5 w5 ⟨g5, rfl, hg5, K5, M5⟩
    refine qA ?_
    refine WL.ac rfl rfl rfl (Ac.app M5 el112 rfl rfl (i := 0) rfl (by simp) (M5.rd hr) (bytesV_one _) (by simp; omega) (by simp [maxLen]; omega)) ?_; rintro v7 w7 ⟨K7, M7⟩
    try dsimp only [List.set] at M7
    simp only [Nat.zero_add, List.nil_append] at M7
    refine qB ?_
    refine qE ?_
    refine WC.ret ?_
    refine WX.ret1 rfl rfl ?_
    first | exact M7.toNew | exact (M7.free (r := row (.slice none 0 0) 5 1 0 []) (row_nil _ _ _) rfl).toNew

end Go.Proofs.YtchmjpdkonfifaaDoor

set_option linter.unusedVariables false
set_option linter.unusedSimpArgs false
namespace Go.Proofs.YtchmjpdkonfifaaDoor
open Go.Sx Go.RowKit
attribute [local irreducible] Ac Ex WL WC WX WP Gives

/- (*sponsion/digest.State).Sum -/
theorem ssum_ok (w : World) (g : Nat) (v : Value) (l : List UInt8) (h : (stR g v l).sat w) (hT : Tabs w) (hb : l.length ≤ 1000000000000) :
    Gives Tryd.prog 115 #[.pointer (some ⟨g, 0, none⟩)] w fun u w1 => u = .agg (bytesV (sha l)).toArray ∧ Keep nof w w1 := by
  have M0 := Mem.start w nof
  have hws := stW_ok l
  have hq : ∀ {w1 : World}, Keep nof w w1 → (blk g (stC (stW l) v l.length) 189).sat w1 := fun k => (Res.keep0 (r := stR g v l) h k).1
  obtain ⟨A, c, hv⟩ := mrw_len h.2.1
  rw [bytesV_length] at hv
  subst hv
  have hrd := mrw_rd h.2.1
  refine Gives.enter (n := 73) Tryd.func115 rfl Tryd.ntmps115 rfl (env := [(0, .pointer (some ⟨g, 0, none⟩))]) rfl ?_
  refine qD ?_
  refine WL.ac rfl rfl rfl (Ac.alloc M0 (l := bytesV (List.replicate 32 0)) (by kernel_rfl)) ?_; rintro v1 w1 ⟨g1, rfl, hg1, K1, M1⟩
  refine qE ?_
  refine WC.seq ?_
  refine WC.draw (Keep nof w1.drew) [] (.one 0 0 (.one 1 0 (.one 2 0 (.one 4 0 (.one 5 0 (.one 6 0 (.one 9 0 (.one 10 0 (.one 11 0 (.one 3 1 (.one 7 1 (.one 12 1 (.one 8 2 (.one 13 0 (.one 14 2 (.one 15 0 .nil)))))))))))))))) mixed (by kernel_rfl) (by kernel_rfl) (by kernel_rfl) (HQ.then_ HQ.body) ?_
  obtain ⟨w2, hw2⟩ : ∃ v, v = w1.drew := ⟨_, rfl⟩
  have D2 : Keep nof w1 w2 := by rw [hw2]; exact Keep.drew _ _
  have M2 := M1.step D2
  rw [← hw2]; clear hw2
  refine qC ?_
  refine WP.p rfl rfl rfl rfl (fun _ => Ex.nilc rfl) ?_
  refine WP.p rfl rfl rfl rfl (fun _ => Ex.fa fl189_0 rfl) ?_
  refine qC ?_
  refine WP.p rfl rfl rfl rfl (fun _ => Ex.nilc rfl) ?_
  refine WP.p rfl rfl rfl rfl (fun _ => Ex.fa fl189_1 rfl) ?_
  refine qC ?_
  refine WP.p rfl rfl rfl rfl (fun _ => Ex.nilc rfl) ?_
  refine WP.p rfl rfl rfl rfl (fun _ => Ex.fa fl189_2 rfl) ?_
  refine WP.q (Keep.refl _ _) rfl rfl rfl rfl (fun w' hS => Ex.loadA ty164 rfl (u32s_len hws) (blk_rdt (hq (M2.keep.trans hS)) (u32V_pre hws.1))) ?_
  refine WP.q (Keep.refl _ _) rfl rfl rfl rfl (fun w' hS => Ex.load ty112 rfl (blk_cell (hq (M2.keep.trans hS)) (stC_8 hws.1 _ _))) ?_
  refine WP.q (Keep.refl _ _) rfl rfl rfl rfl (fun w' hS => Ex.load ty23 rfl (blk_cell (hq (M2.keep.trans hS)) (stC_9 hws.1 _ _))) ?_
  refine WP.as rfl rfl rfl rfl (Ac.call rfl Tryd.func105 nm105 rfl (clone_ok w2 A c (stB l) (hrd.keep0 M2.keep) (by rw [stB_length]; omega))) ?_; rintro v15 w15 N15
  refine ⟨Keep nof w15, fun u h => N15.keep.trans h, Keep.refl _ _, ?_⟩
  have M15 := M2.new N15
  obtain ⟨v2, rfl⟩ : ∃ v2, v2 = v15 := ⟨_, rfl⟩
  refine WP.p rfl rfl rfl rfl (fun _ => Ex.bldS bd189 (parts := [(0, .tmp 11), (1, .tmp 16), (2, .tmp 20)]) [u32V (stW l), [v2], [.int .u64 (l.length : Int)]] (l := stC (stW l) v2 l.length) rfl rfl rfl (by refine okS_step' (A := []) (z := List.replicate 8 (.int .u32 0)) (R := [.slice none 0 0, .int .u64 0]) rfl rfl (by simp [hws.1]) (okS_step' (z := [.slice none 0 0]) (R := [.int .u64 0]) (by simp [hws.1]) (by obtain ⟨_, _, hv⟩ := own_slice (M15.get (i := 0) rfl); rw [hv]; rfl) rfl (okS_step' (z := [.int .u64 0]) (R := []) (by simp [hws.1]) rfl rfl ?_)); show _ = _; simp [stC])) ?_
  refine WP.as rfl rfl rfl rfl (Ac.box M15 rfl rfl) ?_; rintro v17 w17 ⟨ge, rfl, hg17, K17, M17⟩
  refine ⟨Keep nof w17, fun u h => K17.trans h, Keep.refl _ _, ?_⟩
  replace M17 := (M17.view (i := 1) rfl (r' := mrw v2 5 (bytesV (stB l))) mrw_of_row (fun b hb => hb)).closeS
  have hTe := (M17.own _ (List.mem_of_getElem? (i := 0) rfl) ge (by simp [sep, blk])).elim (fun hle => hT.fresh hle) (fun f => f.elim)
  refine WP.p rfl rfl rfl rfl (fun _ => Ex.asg rfl) ?_
  refine WP.nil ?_
  refine WX.next ?_
  refine qD ?_
  refine WL.ac rfl rfl rfl (Ac.bs M17 (parts := [(0, .const (.int .u8 128))]) (l := bytesV [128]) rfl rfl (LitS.one el112 rfl)) ?_; rintro v19 w19 ⟨gb, rfl, hg19, K19, M19⟩
  refine qA ?_
  refine WL.ex rfl rfl rfl (Ex.nilc rfl) ?_
  refine WL.ex rfl rfl rfl (Ex.fa fl189_2 rfl) ?_
  refine WL.ex rfl rfl rfl (Ex.load ty23 rfl (blk_cell (hq M19.keep) (stC_9 hws.1 _ _))) ?_
  refine WL.ex rfl rfl rfl (Ex.rem rfl rfl (by decide) (c := ((l.length % 64 : Nat) : Int)) (remN _ 64)) ?_
  refine WL.ex rfl rfl rfl (Ex.sub rfl rfl (c := ((119 - l.length % 64 : Nat) : Int)) (by rw [show (119 : Int) - ((l.length % 64 : Nat) : Int) = ((119 - l.length % 64 : Nat) : Int) by omega]; exact u64w_lt _ (by omega))) ?_
  refine WL.ex rfl rfl rfl (Ex.rem rfl rfl (by decide) (c := (((119 - l.length % 64) % 64 : Nat) : Int)) (remN _ 64)) ?_
  refine WL.ac rfl rfl rfl (Ac.app0 M19 (zv := .int .u8 0) el112 Tryd.underlying23 (by kernel_rfl) (by decide) rfl rfl rfl (i := 0) rfl rfl rfl (by omega) (by simp [maxLen]; omega)) ?_; rintro v27 w27 ⟨K27, M27⟩
  try dsimp only [List.set] at M27
  obtain ⟨v3, rfl⟩ : ∃ v3, v3 = v27 := ⟨_, rfl⟩
  replace M27 := M27.eqv (i := 0) rfl (r' := row v3 5 1 (tailTo l.length 0).length (bytesV (tailTo l.length 0))) (by rw [tailTo_length]; simp [tailTo, bytesV, byteV, Nat.add_comm])
  try dsimp only [List.set] at M27
  refine qB ?_
  refine qE ?_
  refine WC.seq ?_
  refine qD ?_
  refine qA ?_
  refine qE ?_
  refine WC.block ?_
  refine WC.loop (σ := Nat × Value) (fun s => [(0, .pointer (some ⟨g, 0, none⟩)), (2, .pointer (some ⟨g1, 0, none⟩)), (3, .pointer (some ⟨ge, 0, none⟩)), (4, s.2), (32, .int .i64 (s.1 : Int))]) (fun s wr => s.1 ≤ 8 ∧ Mem w wr nof [row s.2 5 1 (tailTo l.length s.1).length (bytesV (tailTo l.length s.1)), stR ge v2 l, blk g1 (bytesV (List.replicate 32 0)) 31]) (fun s => 8 - s.1) (((0, v3) : Nat × Value)) ?_ (.cons rfl (.cons rfl (.cons rfl (.cons rfl (.cons rfl (.nil)))))) ?_
  · exact ⟨by dsimp only; omega, M27⟩
  rintro ⟨i, v4⟩ w30 ⟨hi, M30⟩
  dsimp only at hi M30
  refine WC.sub (env' := [(0, .pointer (some ⟨g, 0, none⟩)), (2, .pointer (some ⟨g1, 0, none⟩)), (3, .pointer (some ⟨ge, 0, none⟩)), (4, v4), (32, .int .i64 (i : Int))]) (.cons rfl (.cons rfl (.cons rfl (.cons rfl (.cons rfl (.nil)))))) ?_
  refine qD ?_
  refine WL.ex rfl rfl rfl (Ex.lss rfl rfl) ?_
  refine qE ?_
  refine WC.seq ?_
  refine WC.cond_dec rfl (fun hi8 => ?_) (fun hi8 => ?_)
  · have hi8b : i < 8 := by omega
    have htl := tailTo_length l.length i
    refine WC.skip ?_
    refine WX.next ?_
    refine WC.seq ?_
    refine WC.block ?_
    refine qD ?_
    refine qA ?_
    refine qB ?_
    refine qE ?_
    refine WC.region ?_
    refine qA ?_
    refine qA ?_
    refine WL.ex rfl rfl rfl (Ex.nilc rfl) ?_
    refine WL.ex rfl rfl rfl (Ex.fa fl189_2 rfl) ?_
    refine WL.ex rfl rfl rfl (Ex.load ty23 rfl (blk_cell (hq M30.keep) (stC_9 hws.1 _ _))) ?_
    refine WL.ex rfl rfl rfl (Ex.mul rfl rfl (c := ((8 * l.length : Nat) : Int)) (by rw [show (8 : Int) * (l.length : Int) = ((8 * l.length : Nat) : Int) by omega]; exact u64w_lt _ (by omega))) ?_
    refine qA ?_
    refine WL.ex rfl rfl rfl (Ex.mul rfl rfl (c := ((8 * i : Nat) : Int)) (by rw [i64w _ (by omega) (by omega)]; omega)) ?_
    refine WL.ex rfl rfl rfl (Ex.sub rfl rfl (c := ((56 - 8 * i : Nat) : Int)) (by rw [i64w _ (by omega) (by omega)]; omega)) ?_
    refine WL.ex rfl rfl rfl (Ex.shr rfl rfl (m := 56 - 8 * i) rfl (shrN _ _ _ (by simp [IntKind.bits]; omega))) ?_
    refine WL.ex rfl rfl rfl (Ex.cvI Tryd.underlying23 Tryd.underlying5 rfl (u8b _)) ?_
    refine WL.ac rfl rfl rfl (Ac.bs M30 (parts := [(0, .tmp 45)]) rfl rfl (LitS.one el112 rfl)) ?_; rintro v45 w45 ⟨gl, rfl, hg45, K45, M45⟩
    refine WL.ac rfl rfl rfl (Ac.app M45 el112 rfl rfl (i := 1) rfl rfl (M45.rdw (i := 0) rfl) (by simp [Value.oneCell']) (by omega) (by simp [maxLen]; omega)) ?_; rintro v46 w46 ⟨K46, M46⟩
    try dsimp only [List.set] at M46
    obtain ⟨v5, rfl⟩ : ∃ v5, v5 = v46 := ⟨_, rfl⟩
    rw [bytesV_snoc, len_snoc, tailTo_succ _ hi8b] at M46
    refine qB ?_
    refine WL.nil ?_
    refine WX.normal_block (WX.next (?_))
    refine WC.region ?_
    refine WL.ex rfl rfl rfl (Ex.add rfl rfl (i64w _ (by omega) (by omega))) ?_
    refine qA ?_
    refine WL.nil ?_
    refine WX.again (((i + 1, v5) : Nat × Value)) ?_ ?_ (.cons rfl (.cons rfl (.cons rfl (.cons rfl (.cons rfl (.nil))))))
    · (try dsimp only); omega
    · exact ⟨by dsimp only; omega, (Mem.sub M46 (.cons _ (.refl _)))⟩
  · obtain rfl : i = 8 := by omega
    rw [tailTo_8] at M30
    obtain ⟨A4, c4, rfl⟩ := own_slice (M30.get (i := 0) rfl)
    refine WC.exit ?_
    refine WX.exit_then (WX.exit_then (WX.exit_block (WX.next (?_))))
    refine qD ?_
    refine qA ?_
    refine qA ?_
    refine WL.ac rfl rfl rfl (Ac.bs M30 (parts := [(0, .tmp 50)]) (l := [svV ⟨A4, c4, tail l.length⟩]) rfl rfl (LitS.one el153 rfl)) ?_; rintro v52 w52 ⟨gs, rfl, hg52, K52, M52⟩
    refine WL.ac rfl rfl rfl (Ac.call rfl Tryd.func114 nm114 rfl (sadd_ok w52 ge v2 l (some ⟨gs, 0, none⟩) 1 [⟨A4, c4, tail l.length⟩] (M52.get (i := 2) rfl) (RdA.one (M52.get (i := 0) rfl) (M52.apart (i := 0) (j := 2) rfl rfl (by decide) gs (by simp [blk])) (M52.rdr (i := 1) rfl) (fun a ha _ => M52.apart (i := 1) (j := 2) rfl rfl (by decide) a.block (row_nblk ha))) (hT.keep M52.keep) hTe (by simp [flatP, tail_length]; omega) (by simp) (fun b hb => ((M52.own _ (List.mem_of_getElem? (i := 2) rfl) b hb).elim (fun hle => hT.fresh hle) (fun f => f.elim))))) ?_; rintro v53 w53 ⟨rfl, v6, T53⟩
    rw [show flatP [⟨A4, c4, tail l.length⟩] = tail l.length by simp [flatP]] at T53
    have M53 := (M52.turned (i := 2) rfl T53).sub (.cons _ (.cons _ (.refl _)))
    try dsimp only [List.set] at M53
    have hwt := stW_ok (l ++ tail l.length)
    refine qE ?_
    refine qD ?_
    replace M53 := M53.openS
    refine WL.ac rfl rfl rfl (Ac.alloc M53 (l := bytesV (List.replicate 32 0)) (by kernel_rfl)) ?_; rintro v54 w54 ⟨g6, rfl, hg54, K54, M54⟩
    refine qE ?_
    refine WC.seq ?_
    refine qD ?_
    refine qA ?_
    refine qE ?_
    refine WC.block ?_
    refine WC.loop (σ := Nat) (fun i => [(2, .pointer (some ⟨g1, 0, none⟩)), (3, .pointer (some ⟨ge, 0, none⟩)), (6, .pointer (some ⟨g6, 0, none⟩)), (53, .int .i64 (i : Int))]) (fun i wr => i ≤ 32 ∧ Mem w wr nof [blk g6 (bytesV (fillTo 32 i (fun i => UInt8.ofNat ((stW (l ++ tail l.length)).getD (i / 4) 0 / 2 ^ (24 - 8 * (i % 4)))) 0)) 31, blk ge (stC (stW (l ++ tail l.length)) v6 (l ++ tail l.length).length) 189, mrw v6 5 (bytesV (stB (l ++ tail l.length))), blk g1 (bytesV (List.replicate 32 0)) 31]) (fun i => 32 - i) (0) ?_ (.cons rfl (.cons rfl (.cons rfl (.cons rfl (.nil))))) ?_
    · exact ⟨by decide, by rw [fillTo_zero]; exact M54⟩
    rintro i w56 ⟨hi, M56⟩
    refine qD ?_
    refine WL.ex rfl rfl rfl (Ex.lss rfl rfl) ?_
    refine qE ?_
    refine WC.seq ?_
    refine WC.cond_dec rfl (fun hi32 => ?_) (fun hi32 => ?_)
    · have hi32b : i < 32 := by omega
      refine WC.skip ?_
      refine WX.next ?_
      refine WC.seq ?_
      refine WC.block ?_
      refine qD ?_
      refine qA ?_
      refine qB ?_
      refine qE ?_
      refine WC.region ?_
      refine qA ?_
      refine qA ?_
      refine qA ?_
      refine WL.ex rfl rfl rfl (Ex.quo rfl rfl (by decide) (c := ((i / 4 : Nat) : Int)) (by rw [IntWalk.i64_quo _ _ (by omega)]; omega)) ?_
      refine WL.ex rfl rfl rfl (Ex.nilc rfl) ?_
      refine WL.ex rfl rfl rfl (Ex.fa fl189_0 rfl) ?_
      refine WL.ex rfl rfl rfl (Ex.iaA Tryd.underlying164 sz46 rfl rfl ⟨by omega, by omega⟩) ?_
      refine WL.ex rfl rfl rfl (Ex.load ty46 rfl (M56.cell (i := 1) rfl (u32V_atL (i := i / 4) (by rw [hwt.1]; omega) (by simp only [Int.toNat_natCast, Nat.mul_one, Nat.zero_add])))) ?_
      refine qA ?_
      refine WL.ex rfl rfl rfl (Ex.rem rfl rfl (by decide) (c := ((i % 4 : Nat) : Int)) (remN _ 4)) ?_
      refine WL.ex rfl rfl rfl (Ex.mul rfl rfl (c := ((8 * (i % 4) : Nat) : Int)) (by rw [i64w _ (by omega) (by omega)]; omega)) ?_
      refine WL.ex rfl rfl rfl (Ex.sub rfl rfl (c := ((24 - 8 * (i % 4) : Nat) : Int)) (by rw [i64w _ (by omega) (by omega)]; omega)) ?_
      refine WL.ex rfl rfl rfl (Ex.shr rfl rfl (m := 24 - 8 * (i % 4)) rfl (shr32 _ _ (by omega))) ?_
      refine WL.ex rfl rfl rfl (Ex.cvI Tryd.underlying46 Tryd.underlying5 rfl (u8b _)) ?_
      refine WL.ex rfl rfl rfl (Ex.iaA Tryd.underlying31 sz5 rfl rfl ⟨by omega, by omega⟩) ?_
      refine WL.ac0 rfl rfl (Ac.st M56 ty5 rfl rfl rfl (i := 0) rfl (by simp [fillTo]; omega)) ?_; rintro v75 w75 ⟨K75, M75⟩
      try dsimp only [List.set] at M75
      simp only [Int.toNat_natCast, Nat.mul_one, Nat.zero_add] at M75
      rw [bytesV_set, fillTo_set 32 i (fun i => UInt8.ofNat ((stW (l ++ tail l.length)).getD (i / 4) 0 / 2 ^ (24 - 8 * (i % 4))))] at M75
      refine WL.nil ?_
      refine WX.normal_block (WX.next (?_))
      refine WC.region ?_
      refine WL.ex rfl rfl rfl (Ex.add rfl rfl (i64w _ (by omega) (by omega))) ?_
      refine qA ?_
      refine WL.nil ?_
      refine WX.again (i + 1) ?_ ?_ (.cons rfl (.cons rfl (.cons rfl (.cons rfl (.nil)))))
      · (try dsimp only); omega
      · exact ⟨by omega, M75⟩
    · obtain rfl : i = 32 := by omega
      rw [fillTo_full 32 32 (Nat.le_refl _)] at M56
      have hsha : (List.range 32).map (fun i => UInt8.ofNat ((stW (l ++ tail l.length)).getD (i / 4) 0 / 2 ^ (24 - 8 * (i % 4)))) = sha l := rfl
      rw [hsha] at M56
      have hs32 : H32 (sha l) := sha_length l
      refine WC.exit ?_
      refine WX.exit_then (WX.exit_then (WX.exit_block (WX.next (?_))))
      refine qD ?_
      refine WL.ex rfl rfl rfl (Ex.loadA ty31 rfl (h32_len hs32) (M56.rdw (i := 0) rfl)) ?_
      refine WL.ac0 rfl rfl (Ac.stA M56 ty31 rfl rfl rfl (h32_len hs32) (bytesV_one _) (i := 3) rfl (by rw [h32_len hs32, h32_len h32_0]; decide)) ?_; rintro v79 w79 ⟨K79, M79⟩
      try dsimp only [List.set] at M79
      rw [splice_all _ _ (by rw [h32_len hs32, h32_len h32_0])] at M79
      refine qE ?_
      refine WC.ret ?_
      refine WX.retc rfl rfl (run_loadVarA ty31 (by exact h32_len hs32) (M79.rdw (i := 3) rfl)) ?_
      exact ⟨rfl, M79.keep⟩

/- sponsion/digest.Sum -/
theorem dsum_ok (w : World) (A : Option Addr) (c : Nat) (ps : List SV) (hr : RdP w A ps) (hT : Tabs w) (hb : (flatP ps).length ≤ 1000000000000) (hps : ps.length ≤ 1099511627776) :
    Gives Tryd.prog 100 #[.slice A ps.length c] w fun u w1 => u = .agg (bytesV (sha (flatP ps))).toArray ∧ Keep nof w w1 := by
  have M0 := Mem.start w nof
  have hs32 : H32 (sha (flatP ps)) := sha_length _
  refine Gives.enter (n := 7) Tryd.func100 rfl Tryd.ntmps100 rfl (env := [(0, .slice A ps.length c)]) rfl ?_
  refine qD ?_
  refine WL.ac rfl rfl rfl (Ac.alloc M0 (l := bytesV (List.replicate 32 0)) (by kernel_rfl)) ?_; rintro v1 w1 ⟨g1, rfl, hg1, K1, M1⟩
  refine qE ?_
  refine qD ?_
  refine WL.ac rfl rfl rfl (Ac.call rfl Tryd.func113 nm113 rfl (dnew_ok w1 (hT.keep M1.keep))) ?_; rintro v2 w2 ⟨gs, vs, rfl, N2⟩
  have M2 := M1.new N2
  have hfr : ∀ b ∈ (stR gs vs []).fp, w.heap.size ≤ b := fun b hb => Nat.le_trans M1.keep.size (N2.fresh b hb)
  refine qA ?_
  refine WL.ac rfl rfl rfl (Ac.call rfl Tryd.func114 nm114 rfl (sadd_ok w2 gs vs [] A c ps (M2.get (i := 0) rfl) ((RdA.of_old hr hfr).keep M2.keep) (hT.keep M2.keep) (hT.fresh (hfr _ (by simp [sep, blk]))) (by simp; omega) hps (fun b hb => hT.fresh (hfr b hb)))) ?_; rintro v4 w4 ⟨rfl, v6, T4⟩
  rw [List.nil_append] at T4
  have M4 := M2.turned (i := 0) rfl T4
  try dsimp only [List.set] at M4
  refine WL.ac rfl rfl rfl (Ac.call rfl Tryd.func115 nm115 rfl (ssum_ok w4 _ _ _ (M4.get (i := 0) rfl) (hT.keep M4.keep) hb)) ?_; rintro v5 w5 ⟨rfl, K5⟩
  have M5 := M4.step K5
  refine WL.ac0 rfl rfl (Ac.stA M5 ty31 rfl rfl rfl (h32_len hs32) (bytesV_one _) (i := 1) rfl (by rw [h32_len hs32, h32_len h32_0]; decide)) ?_; rintro v6 w6 ⟨K6, M6⟩
  try dsimp only [List.set] at M6
  rw [splice_all _ _ (by rw [h32_len hs32, h32_len h32_0])] at M6
  refine qE ?_
  refine WC.ret ?_
  refine WX.retc rfl rfl (run_loadVarA ty31 (by exact h32_len hs32) (M6.rdw (i := 1) rfl)) ?_
  exact ⟨rfl, M6.keep⟩

end Go.Proofs.YtchmjpdkonfifaaDoor

set_option linter.unusedVariables false
set_option linter.unusedSimpArgs false
namespace Go.Proofs.YtchmjpdkonfifaaDoor
open Go.Sx Go.RowKit
attribute [local irreducible] Ac Ex WL WC WX WP Gives

/- sponsion/sponsionref05.down -/
theorem down_ok (w : World) (x n : Nat) (t : Bool) (hx : x < 4294967296) (hn : n ≤ 32) :
    Gives Tryd.prog 111 #[.int .u32 (x : Int), .int .i64 (n : Int), .bool t] w fun u w1 => u = .int .u32 ((downs t x n : Nat) : Int) ∧ Keep nof w w1 := by
  have M0 := Mem.start w nof
  refine Gives.enter (n := 24) Tryd.func111 rfl Tryd.ntmps111 rfl (env := [(0, .int .u32 (x : Int)), (1, .int .i64 (n : Int)), (2, .bool t)]) rfl ?_
  refine qD ?_
  refine qB ?_
  refine qE ?_
  refine WC.seq ?_
  refine qD ?_
  refine qA ?_
  refine qA ?_
  refine qE ?_
  refine WC.block ?_
  refine WC.loop (σ := Nat) (fun i => [(0, .int .u32 ((downs t x i : Nat) : Int)), (2, .bool t), (8, .int .i64 (n : Int)), (9, .int .i64 (i : Int))]) (fun i wr => i ≤ n ∧ Mem w wr nof []) (fun i => n - i) (0) ?_ (.cons rfl (.cons rfl (.cons rfl (.cons rfl (.nil))))) ?_
  · exact ⟨by omega, M0⟩
  rintro i w4 ⟨hi, M4⟩
  refine qD ?_
  refine WL.ex rfl rfl rfl (Ex.lss rfl rfl) ?_
  refine qE ?_
  refine WC.seq ?_
  refine WC.cond_dec rfl (fun hin => ?_) (fun hin => ?_)
  · obtain ⟨y, hy⟩ : ∃ y, y = downs t x i := ⟨_, rfl⟩
    have hyl : y < 4294967296 := by rw [hy]; exact downs_lt hx t i
    have hs : downs t x (i + 1) = down1 y t := by rw [downs, hy]
    rw [← hy]
    refine WC.skip ?_
    refine WX.next ?_
    refine WC.seq ?_
    refine WC.block ?_
    refine qD ?_
    refine qA ?_
    refine WL.ex rfl rfl rfl (Ex.rem rfl rfl (by decide) (c := ((y % 2 : Nat) : Int)) (remN _ 2)) ?_
    refine qB ?_
    refine qE ?_
    refine qD ?_
    refine qA ?_
    refine WL.ex rfl rfl rfl (Ex.quo rfl rfl (by decide) (c := ((y / 2 : Nat) : Int)) (by rw [show ((y : Int).tdiv 2) = ((y / 2 : Nat) : Int) from (Int.ofNat_tdiv y 2).symm]; exact u32w_lt _ (by omega))) ?_
    refine qB ?_
    refine qE ?_
    refine qD ?_
    refine qA ?_
    refine qA ?_
    rcases Bool.eq_false_or_eq_true t with ht | ht <;> subst ht
    ·
      refine WL.yes rfl rfl rfl rfl ?_
      refine qA ?_
      refine WL.yes rfl rfl rfl rfl ?_
      refine WL.ex rfl rfl rfl (Ex.eqI rfl rfl) ?_
      refine WL.ex rfl rfl rfl (Ex.pickT rfl rfl) ?_
      refine qE ?_
      refine WC.cond_dec rfl (fun hc19 => ?_) (fun hc19 => ?_)
      · skip
        refine WC.region ?_
        refine qA ?_
        refine WL.ex rfl rfl rfl (Ex.add rfl rfl (c := ((y / 2 + 2147483648 : Nat) : Int)) (u32w_lt (y / 2 + 2147483648) (by omega))) ?_
        refine qB ?_
        refine WL.nil ?_
        refine WX.normal_block (WX.next (?_))
        refine WC.region ?_
        refine WL.ex rfl rfl rfl (Ex.add rfl rfl (i64w _ (by omega) (by omega))) ?_
        refine qA ?_
        refine WL.nil ?_
        refine WX.again (i + 1) ?_ ?_ (.cons (by first | rfl | exact congrArg (fun z : Nat => some (Value.int .u32 (z : Int))) (by rw [hs]; unfold down1; first | (rw [if_pos ⟨rfl, by omega⟩]) | (rw [if_neg (fun h => by have := h.2; omega)]) | (rw [if_neg (fun h => by cases h.1)]))) (.cons rfl (.cons rfl (.cons rfl .nil))))
        · (try dsimp only); omega
        · exact ⟨by omega, M4⟩
      · skip
        refine WC.skip ?_
        refine WX.normal_block (WX.next (?_))
        refine WC.region ?_
        refine WL.ex rfl rfl rfl (Ex.add rfl rfl (i64w _ (by omega) (by omega))) ?_
        refine qA ?_
        refine WL.nil ?_
        refine WX.again (i + 1) ?_ ?_ (.cons (by first | rfl | exact congrArg (fun z : Nat => some (Value.int .u32 (z : Int))) (by rw [hs]; unfold down1; first | (rw [if_pos ⟨rfl, by omega⟩]) | (rw [if_neg (fun h => by have := h.2; omega)]) | (rw [if_neg (fun h => by cases h.1)]))) (.cons rfl (.cons rfl (.cons rfl .nil))))
        · (try dsimp only); omega
        · exact ⟨by omega, M4⟩
    ·
      refine WL.no rfl rfl rfl rfl rfl rfl ?_
      refine WL.no rfl rfl rfl rfl rfl rfl ?_
      refine WL.ex rfl rfl rfl (Ex.pickF rfl rfl) ?_
      refine qE ?_
      refine WC.no rfl ?_
      refine WC.skip ?_
      refine WX.normal_block (WX.next (?_))
      refine WC.region ?_
      refine WL.ex rfl rfl rfl (Ex.add rfl rfl (i64w _ (by omega) (by omega))) ?_
      refine qA ?_
      refine WL.nil ?_
      refine WX.again (i + 1) ?_ ?_ (.cons (by first | rfl | exact congrArg (fun z : Nat => some (Value.int .u32 (z : Int))) (by rw [hs]; unfold down1; first | (rw [if_pos ⟨rfl, by omega⟩]) | (rw [if_neg (fun h => by have := h.2; omega)]) | (rw [if_neg (fun h => by cases h.1)]))) (.cons rfl (.cons rfl (.cons rfl .nil))))
      · (try dsimp only); omega
      · exact ⟨by omega, M4⟩
  · obtain rfl : i = n := by omega
    refine WC.exit ?_
    refine WX.exit_then (WX.exit_then (WX.exit_block (WX.next (?_))))
    refine qD ?_
    refine qA ?_
    refine qB ?_
    refine qE ?_
    refine WC.ret ?_
    refine WX.ret1 rfl rfl ?_
    exact ⟨rfl, M4.keep⟩

theorem downT_ok (w : World) (x n : Nat) (hx : x < 4294967296) (hn : n ≤ 32) :
    Gives Tryd.prog 111 #[.int .u32 (x : Int), .int .i64 (n : Int), .bool true] w fun u w1 => u = .int .u32 ((rotr n x : Nat) : Int) ∧ Keep nof w w1 := by
  have := down_ok w x n true hx hn
  rwa [downs_true x n hn] at this
theorem downF_ok (w : World) (x n : Nat) (hx : x < 4294967296) (hn : n ≤ 32) :
    Gives Tryd.prog 111 #[.int .u32 (x : Int), .int .i64 (n : Int), .bool false] w fun u w1 => u = .int .u32 ((x / 2 ^ n : Nat) : Int) ∧ Keep nof w w1 := by
  have := down_ok w x n false hx hn
  rwa [downs_false x n] at this

/- sponsion/sponsionref05.both -/
theorem both_ok (w : World) (a b c : Nat) (ha : a < 4294967296) (hb : b < 4294967296) (hc : c < 4294967296) :
    Gives Tryd.prog 110 #[.int .u32 (a : Int), .int .u32 (b : Int), .int .u32 (c : Int)] w fun u w1 => u = .int .u32 ((a ^^^ b ^^^ c : Nat) : Int) ∧ Keep nof w w1 := by
  have M0 := Mem.start w nof
  refine Gives.enter (n := 12) Tryd.func110 rfl Tryd.ntmps110 rfl (env := [(0, .int .u32 (a : Int)), (1, .int .u32 (b : Int)), (2, .int .u32 (c : Int))]) rfl ?_
  refine qD ?_
  refine qB ?_
  refine qE ?_
  refine qD ?_
  refine qA ?_
  refine qA ?_
  refine WL.ex rfl rfl rfl (Ex.bxor rfl rfl (bxor32 ha hb rfl)) ?_
  refine qA ?_
  refine WL.ex rfl rfl rfl (Ex.bxor rfl rfl (bxor32 (xor32 ha hb) hc rfl)) ?_
  refine qB ?_
  refine qE ?_
  refine WC.ret ?_
  refine WX.ret1 rfl rfl ?_
  exact ⟨rfl, M0.keep⟩

def zerosK (n : Nat) : Nat := (119 - n % 64) % 64
def padA (b : List UInt8) (k : Nat) : List UInt8 := b ++ [128] ++ List.replicate k 0
theorem padA_length (b : List UInt8) (k : Nat) : (padA b k).length = b.length + 1 + k := by simp [padA]; omega
theorem padA_succ (b : List UInt8) (k : Nat) : padA b k ++ [0] = padA b (k + 1) := by rw [padA, padA, List.append_assoc, ← List.replicate_succ']
def padB (b : List UInt8) (i : Nat) : List UInt8 := b ++ tailTo b.length i
theorem padB_0 (b : List UInt8) : padA b (zerosK b.length) = padB b 0 := by simp [padA, padB, tailTo, zerosK]
theorem padB_succ (b : List UInt8) {i : Nat} (h : i < 8) : padB b i ++ [UInt8.ofNat (8 * b.length / 2 ^ (56 - 8 * i))] = padB b (i + 1) := by rw [padB, List.append_assoc, tailTo_succ _ h, padB]
theorem padB_8 (b : List UInt8) : padB b 8 = pad b := by rw [padB, tailTo_8, pad]
theorem unit_pow {i : Nat} (h : i < 8) : 72057594037927936 / 256 ^ i = 2 ^ (56 - 8 * i) := by
  rcases (by omega : i = 0 ∨ i = 1 ∨ i = 2 ∨ i = 3 ∨ i = 4 ∨ i = 5 ∨ i = 6 ∨ i = 7) with rfl | rfl | rfl | rfl | rfl | rfl | rfl | rfl <;> decide
theorem unit_8 : 72057594037927936 / 256 ^ 8 = 0 := by decide

/- sponsion/sponsionref05.Padded -/
theorem padded_ok (w : World) (A : Option Addr) (c : Nat) (b : List UInt8) (hr : Rd w A (bytesV b)) (hb : b.length ≤ 1000000000000) :
    Gives Tryd.prog 109 #[.slice A b.length c] w fun u w1 => New w w1 (row u 5 1 (pad b).length (bytesV (pad b))) := by
  have M0 := Mem.start w nof
  refine Gives.enter (n := 36) Tryd.func109 rfl Tryd.ntmps109 rfl (env := [(0, .slice A b.length c)]) rfl ?_
  refine qD ?_
  refine qB ?_
  refine qE ?_
  refine qD ?_
  refine WL.ac rfl rfl rfl (Ac.bs0 M0 Tryd.underlying112 sz5) ?_; rintro v2 w2 ⟨g2, rfl, hg2, K2, M2⟩
  refine qA ?_
  refine WL.ac rfl rfl rfl (Ac.app M2 el112 rfl rfl (i := 0) rfl (by simp) (M2.rd hr) (bytesV_one _) (by omega) (by simp [maxLen]; omega)) ?_; rintro v4 w4 ⟨K4, M4⟩
  try dsimp only [List.set] at M4
  obtain ⟨v1, rfl⟩ : ∃ v1, v1 = v4 := ⟨_, rfl⟩
  simp only [Nat.zero_add, List.nil_append] at M4
  refine qB ?_
  refine qE ?_
  refine qD ?_
  refine qA ?_
  refine WL.ac rfl rfl rfl (Ac.bs M4 (parts := [(0, .const (.int .u8 128))]) (l := bytesV [128]) rfl rfl (LitS.one el112 rfl)) ?_; rintro v7 w7 ⟨g7, rfl, hg7, K7, M7⟩
  refine WL.ac rfl rfl rfl (Ac.app M7 el112 rfl rfl (i := 1) rfl rfl (M7.rdw (i := 0) rfl) (by first | exact bytesV_one _ | simp [Value.oneCell']) (by omega) (by simp [maxLen]; omega)) ?_; rintro v8 w8 ⟨K8, M8⟩
  try dsimp only [List.set] at M8
  obtain ⟨v2, rfl⟩ : ∃ v2, v2 = v8 := ⟨_, rfl⟩
  rw [← bytesV_append] at M8
  replace M8 := M8.eqv (i := 1) rfl (r' := row v2 5 1 (padA b 0).length (bytesV (padA b 0))) (by simp [padA])
  try dsimp only [List.set] at M8
  refine qB ?_
  refine qE ?_
  refine WC.seq ?_
  refine WC.block ?_
  refine WC.loop (σ := Nat × Value) (fun s => [(0, .slice A b.length c), (3, s.2)]) (fun s wr => s.1 ≤ zerosK b.length ∧ Mem w wr nof [row s.2 5 1 (padA b s.1).length (bytesV (padA b s.1))]) (fun s => zerosK b.length - s.1) (((0, v2) : Nat × Value)) ?_ (.cons rfl (.cons rfl (.nil))) ?_
  · exact ⟨by simp, (Mem.sub M8 (.cons _ (.refl _)))⟩
  rintro ⟨k, v3⟩ w10 ⟨hk, M10⟩
  dsimp only at hk M10
  refine WC.sub (env' := [(0, .slice A b.length c), (3, v3)]) (.cons rfl (.cons rfl (.nil))) ?_
  refine WC.seq ?_
  refine qD ?_
  refine qA ?_
  have hpl := padA_length b k
  obtain ⟨A3, c3, hv3⟩ := own_slice (M10.get (i := 0) rfl)
  subst hv3
  refine WL.ex rfl rfl rfl (Ex.len Tryd.underlying112 rfl) ?_
  refine WL.ex rfl rfl rfl (Ex.rem rfl rfl (by decide) (c := (((padA b k).length % 64 : Nat) : Int)) (remN _ 64)) ?_
  refine WL.ex rfl rfl rfl (Ex.neI rfl rfl) ?_
  refine qE ?_
  refine WC.cond rfl (fun h56 => ?_) (fun h56 => ?_)
  · have hz56 : ¬ (padA b k).length % 64 = 56 := by intro h; simp [h] at h56
    have hlt : k < zerosK b.length := by rw [hpl] at hz56; unfold zerosK at hk ⊢; omega
    have hk63 : k < 64 := by unfold zerosK at hlt; omega
    refine WC.skip ?_
    refine WX.next ?_
    refine WC.block ?_
    refine WC.region ?_
    refine qA ?_
    refine WL.ac rfl rfl rfl (Ac.bs M10 (parts := [(0, .const (.int .u8 0))]) (l := bytesV [0]) rfl rfl (LitS.one el112 rfl)) ?_; rintro v16 w16 ⟨g16, rfl, hg16, K16, M16⟩
    refine WL.ac rfl rfl rfl (Ac.app M16 el112 rfl rfl (i := 1) rfl rfl (M16.rdw (i := 0) rfl) (by first | exact bytesV_one _ | simp [Value.oneCell']) (by omega) (by simp [maxLen]; omega)) ?_; rintro v17 w17 ⟨K17, M17⟩
    try dsimp only [List.set] at M17
    obtain ⟨v4, rfl⟩ : ∃ v4, v4 = v17 := ⟨_, rfl⟩
    rw [← bytesV_append, padA_succ] at M17
    replace M17 := M17.eqv (i := 1) rfl (r' := row v4 5 1 (padA b (k + 1)).length (bytesV (padA b (k + 1)))) (by rw [padA_length, padA_length]; rfl)
    try dsimp only [List.set] at M17
    refine qB ?_
    refine WL.nil ?_
    refine WX.normal_block (?_)
    refine WX.again (((k + 1, v4) : Nat × Value)) ?_ ?_ (.cons rfl (.cons rfl (.nil)))
    · dsimp only; omega
    · exact ⟨by dsimp only; omega, (Mem.sub M17 (.cons _ (.refl _)))⟩
  · have hz56 : (padA b k).length % 64 = 56 := by
      have : ((padA b k).length % 64 : Int) = 56 := by simpa using h56
      omega
    obtain rfl : k = zerosK b.length := by rw [hpl] at hz56; unfold zerosK at hk ⊢; omega
    rw [padB_0] at M10 ⊢
    refine WC.exit ?_
    refine WX.exit_then (WX.exit_then (WX.exit_block (WX.next (?_))))
    refine qD ?_
    refine qA ?_
    refine WL.ex rfl rfl rfl (Ex.len Tryd.underlying112 rfl) ?_
    refine WL.ex rfl rfl rfl (Ex.cvI Tryd.underlying3 Tryd.underlying23 rfl (u64w_lt _ (by omega))) ?_
    refine WL.ex rfl rfl rfl (Ex.mul rfl rfl (c := ((8 * b.length : Nat) : Int)) (by rw [show (b.length : Int) * 8 = ((8 * b.length : Nat) : Int) by omega]; exact u64w_lt _ (by omega))) ?_
    refine qB ?_
    refine qE ?_
    refine qD ?_
    refine qB ?_
    refine qE ?_
    refine WC.seq ?_
    refine WC.block ?_
    refine WC.loop (σ := Nat × Value) (fun s => [(3, s.2), (4, .int .u64 ((8 * b.length : Nat) : Int)), (5, .int .u64 ((72057594037927936 / 256 ^ s.1 : Nat) : Int))]) (fun s wr => s.1 ≤ 8 ∧ Mem w wr nof [row s.2 5 1 (padB b s.1).length (bytesV (padB b s.1))]) (fun s => 8 - s.1) (((0, .slice A3 (padB b 0).length c3) : Nat × Value)) ?_ (.cons rfl (.cons rfl (.cons (congrArg some (congrArg (Value.int .u64) (by simp))) .nil))) ?_
    · exact ⟨by simp, M10⟩
    rintro ⟨i, v5⟩ w25 ⟨hi, M25⟩
    dsimp only at hi M25
    refine WC.sub (env' := [(3, v5), (4, .int .u64 ((8 * b.length : Nat) : Int)), (5, .int .u64 ((72057594037927936 / 256 ^ i : Nat) : Int))]) (.cons rfl (.cons rfl (.cons rfl (.nil)))) ?_
    refine WC.seq ?_
    refine qD ?_
    refine qA ?_
    refine WL.ex rfl rfl rfl (Ex.gtr rfl rfl) ?_
    refine qE ?_
    refine WC.cond_dec rfl (fun hu => ?_) (fun hu => ?_)
    · have hi8 : i < 8 := by
        rcases Nat.lt_or_ge i 8 with h | h
        · exact h
        · obtain rfl : i = 8 := by omega
          rw [unit_8] at hu
          exact absurd hu (by decide)
      have hup := unit_pow hi8
      have hpb : (padB b i).length = b.length + (1 + (119 - b.length % 64) % 64 + min i 8) := by rw [padB, List.length_append, tailTo_length]
      refine WC.skip ?_
      refine WX.next ?_
      refine WC.block ?_
      refine qD ?_
      refine qA ?_
      refine qA ?_
      refine qA ?_
      refine WL.ex rfl rfl rfl (Ex.quo rfl rfl (by rw [hup]; exact_mod_cast Nat.ne_of_gt (Nat.pow_pos (by decide))) (c := ((8 * b.length / 2 ^ (56 - 8 * i) : Nat) : Int)) (by rw [hup]; exact u64quo _ _ (by omega))) ?_
      refine WL.ex rfl rfl rfl (Ex.rem rfl rfl (by decide) (c := ((8 * b.length / 2 ^ (56 - 8 * i) % 256 : Nat) : Int)) (remN _ 256)) ?_
      refine WL.ex rfl rfl rfl (Ex.cvI Tryd.underlying23 Tryd.underlying5 rfl (c := ((UInt8.ofNat (8 * b.length / 2 ^ (56 - 8 * i))).toNat : Int)) (by rw [u8b, ofNat_mod])) ?_
      refine WL.ac rfl rfl rfl (Ac.bs M25 (parts := [(0, .tmp 30)]) rfl rfl (LitS.one el112 rfl)) ?_; rintro v34 w34 ⟨g34, rfl, hg34, K34, M34⟩
      refine WL.ac rfl rfl rfl (Ac.app M34 el112 rfl rfl (i := 1) rfl rfl (M34.rdw (i := 0) rfl) (by first | exact bytesV_one _ | simp [Value.oneCell']) (by omega) (by simp [maxLen]; omega)) ?_; rintro v35 w35 ⟨K35, M35⟩
      try dsimp only [List.set] at M35
      obtain ⟨v6, rfl⟩ : ∃ v6, v6 = v35 := ⟨_, rfl⟩
      rw [bytesV_snoc, len_snoc, padB_succ _ hi8] at M35
      refine qB ?_
      refine qE ?_
      refine WC.region ?_
      refine qA ?_
      refine WL.ex rfl rfl rfl (Ex.quo rfl rfl (by decide) (c := ((72057594037927936 / 256 ^ (i + 1) : Nat) : Int)) (by rw [Nat.pow_succ, ← Nat.div_div_eq_div_mul]; exact u64quo _ 256 (Nat.lt_of_le_of_lt (Nat.div_le_self _ _) (by decide)))) ?_
      refine qB ?_
      refine WL.nil ?_
      refine WX.normal_block (?_)
      refine WX.again (((i + 1, v6) : Nat × Value)) ?_ ?_ (.cons rfl (.cons rfl (.cons rfl (.nil))))
      · dsimp only; omega
      · exact ⟨by dsimp only; omega, (Mem.sub M35 (.cons _ (.refl _)))⟩
    · have hi8 : i = 8 := by
        rcases Nat.lt_or_ge i 8 with h | h
        · rw [unit_pow h] at hu
          exact absurd (by exact_mod_cast Nat.pow_pos (by decide)) hu
        · omega
      subst hi8
      rw [padB_8] at M25
      refine WC.exit ?_
      refine WX.exit_then (WX.exit_then (WX.exit_block (WX.next (?_))))
      refine qD ?_
      refine qA ?_
      refine qB ?_
      refine qE ?_
      refine WC.ret ?_
      refine WX.ret1 rfl rfl ?_
      exact (M25).toNew

abbrev TabR (w : World) : Prop := Rd w (some ⟨0, 0, none⟩) (u32V kTab)
theorem TabR.at_k {w : World} (h : TabR w) {i : Nat} (hi : i < 64) : w.cell? ⟨0, 0 + ((i : Nat) : Int).toNat * 1, none⟩ = some (.int .u32 ((kTab.getD i 0 : Nat) : Int)) :=
  Rd.at1 h (u32V_at (by simpa [kTab] using hi) (by simp))
/-- The bytes of the sum, the first i words whole, of the next one the last m bytes. -/
def outP (h : List Nat) (i m : Nat) : List UInt8 := (List.range 32).map fun j => if j / 4 < i ∨ (j / 4 = i ∧ 4 ≤ j % 4 + m) then UInt8.ofNat (h.getD (j / 4) 0 / 2 ^ (24 - 8 * (j % 4))) else 0
theorem outP_0 (h : List Nat) : outP h 0 0 = List.replicate 32 0 := by
  apply List.ext_getElem
  · simp [outP]
  · intro j h1 h2
    simp only [outP, List.getElem_map, List.getElem_range, List.getElem_replicate]
    rw [if_neg (by omega)]
theorem outP_4 (h : List Nat) (i : Nat) : outP h i 4 = outP h (i + 1) 0 := by
  apply List.map_congr_left
  intro j hj
  have h1 : (j / 4 < i ∨ (j / 4 = i ∧ 4 ≤ j % 4 + 4)) ↔ (j / 4 < i + 1 ∨ (j / 4 = i + 1 ∧ 4 ≤ j % 4 + 0)) := by omega
  simp only [h1]
theorem outP_8 (h : List Nat) : outP h 8 0 = outB h := by
  apply List.map_congr_left
  intro j hj
  have := List.mem_range.1 hj
  rw [if_pos (by omega)]
theorem outP_set (h : List Nat) {i m : Nat} (hi : i < 8) (hm : m < 4) : (outP h i m).set (4 * i + (3 - m)) (UInt8.ofNat (h.getD i 0 / 2 ^ (8 * m))) = outP h i (m + 1) := by
  apply List.ext_getElem
  · simp [outP]
  · intro j h1 h2
    simp only [outP, List.getElem_set, List.getElem_map, List.getElem_range]
    split
    · rename_i e
      rw [if_pos (by omega), show j / 4 = i by omega, show 24 - 8 * (j % 4) = 8 * m by omega]
    · rename_i e
      have h3 : (j / 4 < i ∨ (j / 4 = i ∧ 4 ≤ j % 4 + m)) ↔ (j / 4 < i ∨ (j / 4 = i ∧ 4 ≤ j % 4 + (m + 1))) := by omega
      simp only [h3]
theorem len4' {l : List UInt8} (h : l.length = 4) : ∃ a b c d, l = [a, b, c, d] := by
  match l, h with
  | [a, b, c, d], _ => exact ⟨a, b, c, d, rfl⟩
theorem beVal4 (a b c d : UInt8) : beVal [a, b, c, d] = a.toNat * 16777216 + b.toNat * 65536 + c.toNat * 256 + d.toNat := by simp [beVal]; omega

/- sponsion/sponsionref05.Sum -/
theorem rsum_ok (w : World) (A : Option Addr) (c : Nat) (b : List UInt8) (hr : Rd w A (bytesV b)) (hT : TabR w) (hb : b.length ≤ 1000000000000) :
    Gives Tryd.prog 94 #[.slice A b.length c] w fun u w1 => u = .agg (bytesV (sha b)).toArray ∧ Keep nof w w1 := by
  have M0 := Mem.start w nof
  have hs32 : H32 (sha b) := sha_length b
  have hpm := pad_mod b
  have hpl := pad_length b
  refine Gives.enter (n := 227) Tryd.func94 rfl Tryd.ntmps94 rfl (env := [(0, .slice A b.length c)]) rfl ?_
  refine qD ?_
  refine WL.ac rfl rfl rfl (Ac.alloc M0 (l := bytesV (List.replicate 32 0)) (by kernel_rfl)) ?_; rintro v1 w1 ⟨g2, rfl, hg1, K1, M1⟩
  refine qE ?_
  refine qD ?_
  refine WL.ex rfl rfl rfl (Ex.bldS bd164 (parts := [(0, .const (.int .u32 1779033703)), (1, .const (.int .u32 3144134277)), (2, .const (.int .u32 1013904242)), (3, .const (.int .u32 2773480762)), (4, .const (.int .u32 1359893119)), (5, .const (.int .u32 2600822924)), (6, .const (.int .u32 528734635)), (7, .const (.int .u32 1541459225))]) _ (l := u32V hBeg) rfl rfl rfl (bld8 (x0 := 1779033703) (x1 := 3144134277) (x2 := 1013904242) (x3 := 2773480762) (x4 := 1359893119) (x5 := 2600822924) (x6 := 528734635) (x7 := 1541459225))) ?_
  refine WL.ac rfl rfl rfl (Ac.alloc M1 (l := u32V (List.replicate 8 0)) (by kernel_rfl)) ?_; rintro v3 w3 ⟨gh, rfl, hg3, K3, M3⟩
  refine WL.ac0 rfl rfl (Ac.stA M3 ty164 rfl rfl rfl rfl (u32V_one _) (i := 0) rfl (by simp [hBeg])) ?_; rintro v4 w4 ⟨K4, M4⟩
  try dsimp only [List.set] at M4
  rw [splice_all _ _ (by simp [hBeg])] at M4
  refine qE ?_
  refine qD ?_
  refine qA ?_
  refine WL.ac rfl rfl rfl (Ac.call rfl Tryd.func109 nm109 rfl (padded_ok w4 A c b (M4.rd hr) hb)) ?_; rintro v6 w6 N6
  have M6 := M4.new N6
  obtain ⟨Ap, cp, rfl⟩ := own_slice (M6.get (i := 0) rfl)
  obtain ⟨ga, rfl⟩ := own_some (M6.get (i := 0) rfl) (by omega)
  have hcp := (dat_of_row (M6.get (i := 0) rfl)).2.2
  refine qB ?_
  refine qE ?_
  refine WC.seq ?_
  refine qD ?_
  refine qB ?_
  refine qE ?_
  refine WC.block ?_
  refine WC.loop (σ := Nat) (fun k => [(2, .pointer (some ⟨g2, 0, none⟩)), (3, .pointer (some ⟨gh, 0, none⟩)), (4, .slice (some ⟨ga, 0, none⟩) (pad b).length cp), (5, .int .i64 ((64 * k : Nat) : Int))]) (fun k wr => 64 * k ≤ (pad b).length ∧ Mem w wr nof [row (.slice (some ⟨ga, 0, none⟩) (pad b).length cp) 5 1 (pad b).length (bytesV (pad b)), blk gh (u32V (comps k hBeg (pad b))) 164, blk g2 (bytesV (List.replicate 32 0)) 31]) (fun k => (pad b).length - 64 * k) (0) ?_ (.cons rfl (.cons rfl (.cons rfl (.cons rfl (.nil))))) ?_
  · exact ⟨by omega, M6⟩
  rintro k w9 ⟨hk, M9⟩
  refine WC.seq ?_
  refine qD ?_
  refine qA ?_
  refine qA ?_
  refine WL.ex rfl rfl rfl (Ex.len Tryd.underlying112 rfl) ?_
  refine WL.ex rfl rfl rfl (Ex.lss rfl rfl) ?_
  refine qE ?_
  refine WC.cond_dec rfl (fun hat => ?_) (fun hat => ?_)
  · have hk64 : 64 * k + 64 ≤ (pad b).length := by omega
    obtain ⟨p, hp⟩ : ∃ p, p = ((pad b).drop (64 * k)).take 64 := ⟨_, rfl⟩
    have hpl64 : p.length = 64 := by rw [hp]; simp; omega
    have hh8 := comps_ok k hBeg_ok (pad b)
    obtain ⟨hh, hhe⟩ : ∃ hh, hh = comps k hBeg (pad b) := ⟨_, rfl⟩
    have hcs : comps (k + 1) hBeg (pad b) = comp hh p := by rw [comps_succ, hhe, hp]
    rw [← hhe] at hh8 M9
    refine WC.skip ?_
    refine WX.next ?_
    refine WC.seq ?_
    refine WC.block ?_
    refine qD ?_
    refine WL.ac rfl rfl rfl (Ac.alloc M9 (l := u32V (List.replicate 64 0)) (by kernel_rfl)) ?_; rintro v14 w14 ⟨gw, rfl, hg14, K14, M14⟩
    refine qE ?_
    refine WC.seq ?_
    refine qD ?_
    refine qA ?_
    refine qE ?_
    refine WC.block ?_
    refine WC.loop (σ := Nat) (fun i => [(2, .pointer (some ⟨g2, 0, none⟩)), (3, .pointer (some ⟨gh, 0, none⟩)), (4, .slice (some ⟨ga, 0, none⟩) (pad b).length cp), (5, .int .i64 ((64 * k : Nat) : Int)), (6, .pointer (some ⟨gw, 0, none⟩)), (29, .int .i64 (i : Int))]) (fun i wr => i ≤ 64 ∧ Mem w wr nof [blk gw (u32V (wAt p i)) 165, row (.slice (some ⟨ga, 0, none⟩) (pad b).length cp) 5 1 (pad b).length (bytesV (pad b)), blk gh (u32V hh) 164, blk g2 (bytesV (List.replicate 32 0)) 31]) (fun i => 64 - i) (0) ?_ (.cons rfl (.cons rfl (.cons rfl (.cons rfl (.cons rfl (.cons rfl (.nil))))))) ?_
    · exact ⟨by decide, M14⟩
    rintro i w16 ⟨hi, M16⟩
    refine qD ?_
    refine WL.ex rfl rfl rfl (Ex.lss rfl rfl) ?_
    refine qE ?_
    refine WC.seq ?_
    refine WC.cond_dec rfl (fun hi64 => ?_) (fun hi64 => ?_)
    · have hi64b : i < 64 := by omega
      refine WC.skip ?_
      refine WX.next ?_
      refine WC.seq ?_
      refine WC.block ?_
      refine qD ?_
      refine qA ?_
      refine qB ?_
      refine qE ?_
      refine WC.seq ?_
      refine qD ?_
      refine qA ?_
      refine WL.ex rfl rfl rfl (Ex.lss rfl rfl) ?_
      refine qE ?_
      refine WC.cond_dec rfl (fun hlo => ?_) (fun hlo => ?_)
      · have hlo2 : i < 16 := by omega
        refine qD ?_
        refine qA ?_
        refine qA ?_
        refine qA ?_
        refine WL.ex rfl rfl rfl (Ex.mul rfl rfl (c := ((4 * i : Nat) : Int)) (by rw [i64w _ (by omega) (by omega)]; omega)) ?_
        refine WL.ex rfl rfl rfl (Ex.add rfl rfl (c := ((64 * k + 4 * i : Nat) : Int)) (by rw [i64w _ (by omega) (by omega)]; omega)) ?_
        refine qA ?_
        refine qA ?_
        refine WL.ex rfl rfl rfl (Ex.mul rfl rfl (c := ((4 * i : Nat) : Int)) (by rw [i64w _ (by omega) (by omega)]; omega)) ?_
        refine WL.ex rfl rfl rfl (Ex.add rfl rfl (c := ((64 * k + 4 * i : Nat) : Int)) (by rw [i64w _ (by omega) (by omega)]; omega)) ?_
        refine WL.ex rfl rfl rfl (Ex.add rfl rfl (c := ((64 * k + 4 * i + 4 : Nat) : Int)) (by rw [i64w _ (by omega) (by omega)]; omega)) ?_
        refine WL.ex rfl rfl rfl (Ex.sllhN Tryd.underlying112 sz5 rfl rfl rfl (by omega) (by omega) (by omega)) ?_
        rw [show 64 * k + 4 * i + 4 - (64 * k + 4 * i) = 4 by omega]
        obtain ⟨c0, c1, c2, c3, hq⟩ := len4' (l := (p.drop (4 * i)).take 4) (by simp; omega)
        have hqv : beVal ((p.drop (4 * i)).take 4) = c0.toNat * 16777216 + c1.toNat * 65536 + c2.toNat * 256 + c3.toNat := by rw [hq, beVal4]
        have hq4 : ∀ {w1 : World}, Keep nof w16 w1 → Rd w1 (some ⟨ga, 0 + (64 * k + 4 * i) * 1, none⟩) (bytesV [c0, c1, c2, c3]) := fun K => by
          have h1 := (((M16.rdr (i := 1) rfl).keep0 K).drop (64 * k + 4 * i)).take 4
          simp only [Option.map_some, add0] at h1
          rw [← hq, hp, Nat.mul_one]
          have h2 : ((bytesV (pad b)).drop (64 * k + 4 * i)).take 4 = bytesV (((((pad b).drop (64 * k)).take 64).drop (4 * i)).take 4) := by
            simp only [bytesV, ← List.map_drop, ← List.map_take]
            congr 1
            rw [List.drop_take, List.drop_drop, List.take_take, Nat.min_eq_left (by omega)]
          rwa [h2] at h1
        have hb0 := c0.toNat_lt
        have hb1 := c1.toNat_lt
        have hb2 := c2.toNat_lt
        have hb3 := c3.toNat_lt
        refine qB ?_
        refine qE ?_
        refine WC.seq ?_
        refine WC.draw (Keep nof w16.drew) [24] (.one 0 0 (.one 1 0 (.one 2 0 (.one 6 0 (.one 7 0 (.one 12 0 (.one 13 0 (.one 18 0 (.one 19 0 (.one 3 1 (.one 4 0 (.one 5 0 (.one 8 1 (.one 9 0 (.one 10 0 (.one 11 0 (.one 14 1 (.one 15 0 (.one 16 0 (.one 17 0 (.one 20 1 (.one 21 0 (.one 22 0 (.one 23 0 (.one 24 2 .nil))))))))))))))))))))))))) mixed (by kernel_rfl) (by kernel_rfl) (by kernel_rfl) (HQ.then_ (HQ.then_ (HQ.block (HQ.then_ (HQ.then_ (HQ.block (HQ.then_ (HQ.block (HQ.then_ (HQ.then_ (HQ.block (HQ.then_ HQ.body)))))))))))) ?_
        obtain ⟨w34, hw34⟩ : ∃ v, v = w16.drew := ⟨_, rfl⟩
        have D34 : Keep nof w16 w34 := by rw [hw34]; exact Keep.drew _ _
        have M34 := M16.step D34
        rw [← hw34]; clear hw34
        refine qC ?_
        refine qC ?_
        refine WP.p rfl rfl rfl rfl (fun _ => Ex.ia Tryd.underlying112 sz5 rfl rfl ⟨by omega, by omega⟩) ?_
        refine qC ?_
        refine WP.p rfl rfl rfl rfl (fun _ => Ex.ia Tryd.underlying112 sz5 rfl rfl ⟨by omega, by omega⟩) ?_
        refine qC ?_
        refine WP.p rfl rfl rfl rfl (fun _ => Ex.ia Tryd.underlying112 sz5 rfl rfl ⟨by omega, by omega⟩) ?_
        refine qC ?_
        refine WP.p rfl rfl rfl rfl (fun _ => Ex.ia Tryd.underlying112 sz5 rfl rfl ⟨by omega, by omega⟩) ?_
        refine WP.q (Keep.refl _ _) rfl rfl rfl rfl (fun w' hS => Ex.load ty5 rfl (Rd.at1 (u := byteV c0) (hq4 (D34.trans hS)) (j := 0) rfl)) ?_
        refine WP.p rfl rfl rfl rfl (fun _ => Ex.cvI Tryd.underlying5 Tryd.underlying46 rfl (u32w_lt _ (by omega))) ?_
        refine WP.p rfl rfl rfl rfl (fun _ => Ex.mul rfl rfl (c := ((c0.toNat * 16777216 : Nat) : Int)) (u32w_lt (c0.toNat * 16777216) (by omega))) ?_
        refine WP.q (Keep.refl _ _) rfl rfl rfl rfl (fun w' hS => Ex.load ty5 rfl (Rd.at1 (u := byteV c1) (hq4 (D34.trans hS)) (j := 1) rfl)) ?_
        refine WP.p rfl rfl rfl rfl (fun _ => Ex.cvI Tryd.underlying5 Tryd.underlying46 rfl (u32w_lt _ (by omega))) ?_
        refine WP.p rfl rfl rfl rfl (fun _ => Ex.mul rfl rfl (c := ((c1.toNat * 65536 : Nat) : Int)) (u32w_lt (c1.toNat * 65536) (by omega))) ?_
        refine WP.p rfl rfl rfl rfl (fun _ => Ex.add rfl rfl (c := ((c0.toNat * 16777216 + c1.toNat * 65536 : Nat) : Int)) (u32w_lt (c0.toNat * 16777216 + c1.toNat * 65536) (by omega))) ?_
        refine WP.q (Keep.refl _ _) rfl rfl rfl rfl (fun w' hS => Ex.load ty5 rfl (Rd.at1 (u := byteV c2) (hq4 (D34.trans hS)) (j := 2) rfl)) ?_
        refine WP.p rfl rfl rfl rfl (fun _ => Ex.cvI Tryd.underlying5 Tryd.underlying46 rfl (u32w_lt _ (by omega))) ?_
        refine WP.p rfl rfl rfl rfl (fun _ => Ex.mul rfl rfl (c := ((c2.toNat * 256 : Nat) : Int)) (u32w_lt (c2.toNat * 256) (by omega))) ?_
        refine WP.p rfl rfl rfl rfl (fun _ => Ex.add rfl rfl (c := ((c0.toNat * 16777216 + c1.toNat * 65536 + c2.toNat * 256 : Nat) : Int)) (u32w_lt (c0.toNat * 16777216 + c1.toNat * 65536 + c2.toNat * 256) (by omega))) ?_
        refine WP.q (Keep.refl _ _) rfl rfl rfl rfl (fun w' hS => Ex.load ty5 rfl (Rd.at1 (u := byteV c3) (hq4 (D34.trans hS)) (j := 3) rfl)) ?_
        refine WP.p rfl rfl rfl rfl (fun _ => Ex.cvI Tryd.underlying5 Tryd.underlying46 rfl (u32w_lt _ (by omega))) ?_
        refine WP.p rfl rfl rfl rfl (fun _ => Ex.add rfl rfl (c := ((beVal ((p.drop (4 * i)).take 4) : Nat) : Int)) (by rw [hqv]; exact u32w_lt (c0.toNat * 16777216 + c1.toNat * 65536 + c2.toNat * 256 + c3.toNat) (by omega))) ?_
        refine WP.p rfl rfl rfl rfl (fun _ => Ex.iaA Tryd.underlying165 sz46 rfl rfl ⟨by omega, by omega⟩) ?_
        refine WP.a0 rfl rfl rfl (Ac.st M34 ty46 rfl rfl rfl (i := 0) rfl (by simp [(wAt_ok p i).1]; omega)) ?_; rintro v59 w59 ⟨K59, M59⟩; refine .inl ⟨rfl, Keep nof w59, ?_⟩
        try dsimp only [List.set] at M59
        simp only [Int.toNat_natCast, Nat.mul_one, Nat.zero_add] at M59
        rw [u32V_set, ← wAt_lo p hlo2] at M59
        refine WP.nil ?_
        refine WX.next ?_
        refine WC.exit ?_
        refine WX.exit_then (WX.exit_block (WX.next (?_)))
        refine WC.region ?_
        refine WL.ex rfl rfl rfl (Ex.add rfl rfl (i64w _ (by omega) (by omega))) ?_
        refine qA ?_
        refine WL.nil ?_
        refine WX.again (i + 1) ?_ ?_ (.cons rfl (.cons rfl (.cons rfl (.cons rfl (.cons rfl (.cons rfl (.nil)))))))
        · (try dsimp only); omega
        · exact ⟨by omega, M59⟩
      · have hlo2 : ¬ i < 16 := by omega
        refine WC.skip ?_
        refine WX.next ?_
        refine qD ?_
        refine qA ?_
        refine WL.ex rfl rfl rfl (Ex.sub rfl rfl (c := ((i - 15 : Nat) : Int)) (by rw [i64w _ (by omega) (by omega)]; omega)) ?_
        refine WL.ex rfl rfl rfl (Ex.iaA Tryd.underlying165 sz46 rfl rfl ⟨by omega, by omega⟩) ?_
        refine WL.ex rfl rfl rfl (Ex.load ty46 rfl (M16.cell (i := 0) rfl (u32V_at (i := i - 15) (by rw [(wAt_ok p i).1]; omega) (by simp only [Int.toNat_natCast, Nat.mul_one, Nat.zero_add])))) ?_
        refine qB ?_
        refine qE ?_
        refine qD ?_
        refine qA ?_
        refine WL.ex rfl rfl rfl (Ex.sub rfl rfl (c := ((i - 2 : Nat) : Int)) (by rw [i64w _ (by omega) (by omega)]; omega)) ?_
        refine WL.ex rfl rfl rfl (Ex.iaA Tryd.underlying165 sz46 rfl rfl ⟨by omega, by omega⟩) ?_
        refine WL.ex rfl rfl rfl (Ex.load ty46 rfl (M16.cell (i := 0) rfl (u32V_at (i := i - 2) (by rw [(wAt_ok p i).1]; omega) (by simp only [Int.toNat_natCast, Nat.mul_one, Nat.zero_add])))) ?_
        refine qB ?_
        refine qE ?_
        refine WC.draw (Keep nof w16.drew) [27] (.one 0 0 (.one 1 0 (.one 2 0 (.one 3 0 (.one 5 0 (.one 6 0 (.one 7 0 (.one 10 0 (.one 12 0 (.one 14 0 (.one 18 0 (.one 20 0 (.one 22 0 (.one 4 1 (.one 8 1 (.one 9 0 (.one 11 2 (.one 13 2 (.one 15 2 (.one 16 2 (.one 17 0 (.one 19 2 (.one 21 2 (.one 23 2 (.one 24 2 (.one 25 0 (.one 26 0 (.one 27 2 .nil)))))))))))))))))))))))))))) mixed (by kernel_rfl) (by kernel_rfl) (by kernel_rfl) (HQ.block (HQ.then_ (HQ.then_ (HQ.block (HQ.then_ (HQ.block (HQ.then_ (HQ.then_ (HQ.block (HQ.then_ HQ.body)))))))))) ?_
        obtain ⟨w72, hw72⟩ : ∃ v, v = w16.drew := ⟨_, rfl⟩
        have D72 : Keep nof w16 w72 := by rw [hw72]; exact Keep.drew _ _
        have M72 := M16.step D72
        rw [← hw72]; clear hw72
        refine qC ?_
        refine qC ?_
        refine WP.p rfl rfl rfl rfl (fun _ => Ex.sub rfl rfl (c := ((i - 16 : Nat) : Int)) (by rw [i64w _ (by omega) (by omega)]; omega)) ?_
        refine WP.p rfl rfl rfl rfl (fun _ => Ex.iaA Tryd.underlying165 sz46 rfl rfl ⟨by omega, by omega⟩) ?_
        refine qC ?_
        refine WP.p rfl rfl rfl rfl (fun _ => Ex.sub rfl rfl (c := ((i - 7 : Nat) : Int)) (by rw [i64w _ (by omega) (by omega)]; omega)) ?_
        refine WP.p rfl rfl rfl rfl (fun _ => Ex.iaA Tryd.underlying165 sz46 rfl rfl ⟨by omega, by omega⟩) ?_
        refine qC ?_
        refine qC ?_
        refine qC ?_
        refine qC ?_
        refine qC ?_
        refine qC ?_
        refine WP.q (Keep.refl _ _) rfl rfl rfl rfl (fun w' hS => Ex.load ty46 rfl (hS.cell (M72.cell (i := 0) rfl (u32V_at (i := i - 16) (by rw [(wAt_ok p i).1]; omega) (by simp only [Int.toNat_natCast, Nat.mul_one, Nat.zero_add]))) (fun f => f))) ?_
        refine WP.q (Keep.refl _ _) rfl rfl rfl rfl (fun w' hS => Ex.load ty46 rfl (hS.cell (M72.cell (i := 0) rfl (u32V_at (i := i - 7) (by rw [(wAt_ok p i).1]; omega) (by simp only [Int.toNat_natCast, Nat.mul_one, Nat.zero_add]))) (fun f => f))) ?_
        refine WP.p rfl rfl rfl rfl (fun _ => Ex.add rfl rfl (add32N _ _)) ?_
        refine WP.as rfl rfl rfl rfl (Ac.call rfl Tryd.func111 nm111 rfl (downT_ok w72 _ 7 (u32s_get (wAt_ok p i)) (by decide))) ?_; rintro v89 w89 ⟨rfl, K89⟩
        refine ⟨Keep nof w89, fun u h => K89.trans h, Keep.refl _ _, ?_⟩
        have M89 := M72.step K89
        refine WP.as rfl rfl rfl rfl (Ac.call rfl Tryd.func111 nm111 rfl (downT_ok w89 _ 18 (u32s_get (wAt_ok p i)) (by decide))) ?_; rintro v90 w90 ⟨rfl, K90⟩
        refine ⟨Keep nof w90, fun u h => K90.trans h, Keep.refl _ _, ?_⟩
        have M90 := M89.step K90
        refine WP.as rfl rfl rfl rfl (Ac.call rfl Tryd.func111 nm111 rfl (downF_ok w90 _ 3 (u32s_get (wAt_ok p i)) (by decide))) ?_; rintro v91 w91 ⟨rfl, K91⟩
        refine ⟨Keep nof w91, fun u h => K91.trans h, Keep.refl _ _, ?_⟩
        have M91 := M90.step K91
        refine WP.as rfl rfl rfl rfl (Ac.call rfl Tryd.func110 nm110 rfl (both_ok w91 _ _ _ (rotr_lt (n := 7) (by decide) (u32s_get (wAt_ok p i))) (rotr_lt (n := 18) (by decide) (u32s_get (wAt_ok p i))) (Nat.lt_of_le_of_lt (Nat.div_le_self _ _) (u32s_get (wAt_ok p i))))) ?_; rintro v92 w92 ⟨rfl, K92⟩
        refine ⟨Keep nof w92, fun u h => K92.trans h, Keep.refl _ _, ?_⟩
        have M92 := M91.step K92
        refine WP.p rfl rfl rfl rfl (fun _ => Ex.add rfl rfl (add32N _ _)) ?_
        refine WP.as rfl rfl rfl rfl (Ac.call rfl Tryd.func111 nm111 rfl (downT_ok w92 _ 17 (u32s_get (wAt_ok p i)) (by decide))) ?_; rintro v94 w94 ⟨rfl, K94⟩
        refine ⟨Keep nof w94, fun u h => K94.trans h, Keep.refl _ _, ?_⟩
        have M94 := M92.step K94
        refine WP.as rfl rfl rfl rfl (Ac.call rfl Tryd.func111 nm111 rfl (downT_ok w94 _ 19 (u32s_get (wAt_ok p i)) (by decide))) ?_; rintro v95 w95 ⟨rfl, K95⟩
        refine ⟨Keep nof w95, fun u h => K95.trans h, Keep.refl _ _, ?_⟩
        have M95 := M94.step K95
        refine WP.as rfl rfl rfl rfl (Ac.call rfl Tryd.func111 nm111 rfl (downF_ok w95 _ 10 (u32s_get (wAt_ok p i)) (by decide))) ?_; rintro v96 w96 ⟨rfl, K96⟩
        refine ⟨Keep nof w96, fun u h => K96.trans h, Keep.refl _ _, ?_⟩
        have M96 := M95.step K96
        refine WP.as rfl rfl rfl rfl (Ac.call rfl Tryd.func110 nm110 rfl (both_ok w96 _ _ _ (rotr_lt (n := 17) (by decide) (u32s_get (wAt_ok p i))) (rotr_lt (n := 19) (by decide) (u32s_get (wAt_ok p i))) (Nat.lt_of_le_of_lt (Nat.div_le_self _ _) (u32s_get (wAt_ok p i))))) ?_; rintro v97 w97 ⟨rfl, K97⟩
        refine ⟨Keep nof w97, fun u h => K97.trans h, Keep.refl _ _, ?_⟩
        have M97 := M96.step K97
        refine WP.p rfl rfl rfl rfl (fun _ => Ex.add rfl rfl (add32N _ _)) ?_
        refine WP.p rfl rfl rfl rfl (fun _ => Ex.iaA Tryd.underlying165 sz46 rfl rfl ⟨by omega, by omega⟩) ?_
        refine WP.a0 rfl rfl rfl (Ac.st M97 ty46 rfl rfl rfl (i := 0) rfl (by simp [(wAt_ok p i).1]; omega)) ?_; rintro v100 w100 ⟨K100, M100⟩; refine .inl ⟨rfl, Keep nof w100, ?_⟩
        try dsimp only [List.set] at M100
        simp only [Int.toNat_natCast, Nat.mul_one, Nat.zero_add] at M100
        rw [u32V_set, wAt_hi p hlo2 (by simp only [sg0, sg1]; omega)] at M100
        refine WP.nil ?_
        refine WX.normal_block (WX.next (?_))
        refine WC.region ?_
        refine WL.ex rfl rfl rfl (Ex.add rfl rfl (i64w _ (by omega) (by omega))) ?_
        refine qA ?_
        refine WL.nil ?_
        refine WX.again (i + 1) ?_ ?_ (.cons rfl (.cons rfl (.cons rfl (.cons rfl (.cons rfl (.cons rfl (.nil)))))))
        · (try dsimp only); omega
        · exact ⟨by omega, M100⟩
    · obtain rfl : i = 64 := by omega
      obtain ⟨W, hW⟩ : ∃ W, W = wAt p 64 := ⟨_, rfl⟩
      have hW64 : U32s 64 W := by rw [hW]; exact wAt_ok p 64
      have hcomp : addT hh (rAt hh W 64) 8 = comp hh p := by rw [comp, hW]
      rw [← hW] at M16
      refine WC.exit ?_
      refine WX.exit_then (WX.exit_then (WX.exit_block (WX.next (?_))))
      refine qD ?_
      refine WL.ex rfl rfl rfl (Ex.loadA ty164 rfl (u32s_len hh8) (M16.rdw (i := 2) rfl)) ?_
      refine WL.ac rfl rfl rfl (Ac.alloc M16 (l := u32V (List.replicate 8 0)) (by kernel_rfl)) ?_; rintro v104 w104 ⟨gl, rfl, hg104, K104, M104⟩
      refine WL.ac0 rfl rfl (Ac.stA M104 ty164 rfl rfl rfl (u32s_len hh8) (u32V_one _) (i := 0) rfl (by simp [hh8.1])) ?_; rintro v105 w105 ⟨K105, M105⟩
      try dsimp only [List.set] at M105
      rw [splice_all _ _ (by simp [hh8.1])] at M105
      refine qE ?_
      refine WC.seq ?_
      refine qD ?_
      refine qA ?_
      refine qE ?_
      refine WC.block ?_
      refine WC.loop (σ := Nat) (fun i => [(2, .pointer (some ⟨g2, 0, none⟩)), (3, .pointer (some ⟨gh, 0, none⟩)), (4, .slice (some ⟨ga, 0, none⟩) (pad b).length cp), (5, .int .i64 ((64 * k : Nat) : Int)), (6, .pointer (some ⟨gw, 0, none⟩)), (11, .pointer (some ⟨gl, 0, none⟩)), (106, .int .i64 (i : Int))]) (fun i wr => i ≤ 64 ∧ U32s 8 (rAt hh W i) ∧ Mem w wr nof [blk gl (u32V (rAt hh W i)) 164, blk gw (u32V W) 165, row (.slice (some ⟨ga, 0, none⟩) (pad b).length cp) 5 1 (pad b).length (bytesV (pad b)), blk gh (u32V hh) 164, blk g2 (bytesV (List.replicate 32 0)) 31]) (fun i => 64 - i) (0) ?_ (.cons rfl (.cons rfl (.cons rfl (.cons rfl (.cons rfl (.cons rfl (.cons rfl (.nil)))))))) ?_
      · exact ⟨by decide, hh8, M105⟩
      rintro i w107 ⟨hi, hR, M107⟩
      refine qD ?_
      refine WL.ex rfl rfl rfl (Ex.lss rfl rfl) ?_
      refine qE ?_
      refine WC.seq ?_
      refine WC.cond_dec rfl (fun hi64 => ?_) (fun hi64 => ?_)
      · have hi64b : i < 64 := by omega
        obtain ⟨a, ha⟩ : ∃ a, a = rAt hh W i := ⟨_, rfl⟩
        have hrs : rAt hh W (i + 1) = rnd a (kTab.getD i 0) (W.getD i 0) := by rw [rAt, ha]
        rw [← ha] at hR M107
        refine WC.skip ?_
        refine WX.next ?_
        refine WC.seq ?_
        refine WC.block ?_
        refine qD ?_
        refine qA ?_
        refine qB ?_
        refine qE ?_
        refine WC.seq ?_
        refine WC.draw (Keep nof w107.drew) [] (.one 0 0 (.one 2 0 (.one 5 0 (.one 8 0 (.one 13 0 (.one 15 0 (.one 18 0 (.one 21 0 (.one 26 0 (.one 27 0 (.one 30 0 (.one 31 0 (.one 1 1 (.one 3 1 (.one 6 1 (.one 9 1 (.one 14 1 (.one 16 1 (.one 17 0 (.one 19 1 (.one 20 0 (.one 22 1 (.one 23 0 (.one 24 0 (.one 28 1 (.one 32 1 (.one 4 2 (.one 7 2 (.one 10 2 (.one 11 2 (.one 12 0 (.one 25 0 (.one 29 0 (.one 33 0 (.one 34 0 .nil))))))))))))))))))))))))))))))))))) mixed (by kernel_rfl) (by kernel_rfl) (by kernel_rfl) (HQ.then_ (HQ.block (HQ.then_ (HQ.then_ (HQ.block (HQ.then_ (HQ.block (HQ.then_ (HQ.then_ (HQ.block (HQ.then_ HQ.body))))))))))) ?_
        obtain ⟨w111, hw111⟩ : ∃ v, v = w107.drew := ⟨_, rfl⟩
        have D111 : Keep nof w107 w111 := by rw [hw111]; exact Keep.drew _ _
        have M111 := M107.step D111
        rw [← hw111]; clear hw111
        refine WP.p rfl rfl rfl rfl (fun _ => Ex.iaA Tryd.underlying164 sz46 rfl rfl ⟨by omega, by omega⟩) ?_
        refine WP.p rfl rfl rfl rfl (fun _ => Ex.iaA Tryd.underlying164 sz46 rfl rfl ⟨by omega, by omega⟩) ?_
        refine WP.p rfl rfl rfl rfl (fun _ => Ex.iaA Tryd.underlying164 sz46 rfl rfl ⟨by omega, by omega⟩) ?_
        refine WP.p rfl rfl rfl rfl (fun _ => Ex.iaA Tryd.underlying164 sz46 rfl rfl ⟨by omega, by omega⟩) ?_
        refine WP.p rfl rfl rfl rfl (fun _ => Ex.iaA Tryd.underlying164 sz46 rfl rfl ⟨by omega, by omega⟩) ?_
        refine WP.p rfl rfl rfl rfl (fun _ => Ex.iaA Tryd.underlying164 sz46 rfl rfl ⟨by omega, by omega⟩) ?_
        refine WP.p rfl rfl rfl rfl (fun _ => Ex.iaA Tryd.underlying164 sz46 rfl rfl ⟨by omega, by omega⟩) ?_
        refine WP.p rfl rfl rfl rfl (fun _ => Ex.iaA Tryd.underlying164 sz46 rfl rfl ⟨by omega, by omega⟩) ?_
        refine qC ?_
        refine WP.p rfl rfl rfl rfl (fun _ => Ex.iaA Tryd.underlying165 sz46 rfl rfl ⟨by omega, by omega⟩) ?_
        refine qC ?_
        refine WP.p rfl rfl rfl rfl (fun _ => Ex.iaA Tryd.underlying165 sz46 rfl rfl ⟨by omega, by omega⟩) ?_
        refine WP.q (Keep.refl _ _) rfl rfl rfl rfl (fun w' hS => Ex.load ty46 rfl (hS.cell (M111.cell (i := 0) rfl (u32V_at (i := 7) (by rw [hR.1]; decide) rfl)) (fun f => f))) ?_
        refine WP.q (Keep.refl _ _) rfl rfl rfl rfl (fun w' hS => Ex.load ty46 rfl (hS.cell (M111.cell (i := 0) rfl (u32V_at (i := 4) (by rw [hR.1]; decide) rfl)) (fun f => f))) ?_
        refine WP.q (Keep.refl _ _) rfl rfl rfl rfl (fun w' hS => Ex.load ty46 rfl (hS.cell (M111.cell (i := 0) rfl (u32V_at (i := 4) (by rw [hR.1]; decide) rfl)) (fun f => f))) ?_
        refine WP.q (Keep.refl _ _) rfl rfl rfl rfl (fun w' hS => Ex.load ty46 rfl (hS.cell (M111.cell (i := 0) rfl (u32V_at (i := 4) (by rw [hR.1]; decide) rfl)) (fun f => f))) ?_
        refine WP.q (Keep.refl _ _) rfl rfl rfl rfl (fun w' hS => Ex.load ty46 rfl (hS.cell (M111.cell (i := 0) rfl (u32V_at (i := 4) (by rw [hR.1]; decide) rfl)) (fun f => f))) ?_
        refine WP.q (Keep.refl _ _) rfl rfl rfl rfl (fun w' hS => Ex.load ty46 rfl (hS.cell (M111.cell (i := 0) rfl (u32V_at (i := 5) (by rw [hR.1]; decide) rfl)) (fun f => f))) ?_
        refine WP.p rfl rfl rfl rfl (fun _ => Ex.band rfl rfl (band32 (by first | exact u32s_get (by assumption) | assumption | exact and32 (by first | exact u32s_get (by assumption) | omega) | omega | exact xor32 (and32 (by first | exact u32s_get (by assumption) | omega)) (and32 (by first | exact u32s_get (by assumption) | omega))) (by first | exact u32s_get (by assumption) | assumption | exact and32 (by first | exact u32s_get (by assumption) | omega) | omega | exact xor32 (and32 (by first | exact u32s_get (by assumption) | omega)) (and32 (by first | exact u32s_get (by assumption) | omega))) rfl)) ?_
        refine WP.q (Keep.refl _ _) rfl rfl rfl rfl (fun w' hS => Ex.load ty46 rfl (hS.cell (M111.cell (i := 0) rfl (u32V_at (i := 4) (by rw [hR.1]; decide) rfl)) (fun f => f))) ?_
        refine WP.p rfl rfl rfl rfl (fun _ => Ex.sub rfl rfl (c := ((4294967295 - a.getD 4 0 : Nat) : Int)) (by have := u32s_get (i := 4) hR; rw [show (4294967295 : Int) - ((a.getD 4 0 : Nat) : Int) = ((4294967295 - a.getD 4 0 : Nat) : Int) by omega]; exact u32w_lt _ (by omega))) ?_
        refine WP.q (Keep.refl _ _) rfl rfl rfl rfl (fun w' hS => Ex.load ty46 rfl (hS.cell (M111.cell (i := 0) rfl (u32V_at (i := 6) (by rw [hR.1]; decide) rfl)) (fun f => f))) ?_
        refine WP.p rfl rfl rfl rfl (fun _ => Ex.band rfl rfl (band32 (by first | exact u32s_get (by assumption) | assumption | exact and32 (by first | exact u32s_get (by assumption) | omega) | omega | exact xor32 (and32 (by first | exact u32s_get (by assumption) | omega)) (and32 (by first | exact u32s_get (by assumption) | omega))) (by first | exact u32s_get (by assumption) | assumption | exact and32 (by first | exact u32s_get (by assumption) | omega) | omega | exact xor32 (and32 (by first | exact u32s_get (by assumption) | omega)) (and32 (by first | exact u32s_get (by assumption) | omega))) rfl)) ?_
        refine WP.p rfl rfl rfl rfl (fun _ => Ex.bor rfl rfl (c := ((cho (a.getD 4 0) (a.getD 5 0) (a.getD 6 0) : Nat) : Int)) (bor32 (and32 (u32s_get hR)) (and32 (by omega)) (cho_or (u32s_get hR)))) ?_
        refine WP.q (Keep.refl _ _) rfl rfl rfl rfl (fun w' hS => Ex.load ty46 rfl (TabR.at_k (hT.keep0 (M111.keep.trans hS)) hi64b)) ?_
        refine WP.q (Keep.refl _ _) rfl rfl rfl rfl (fun w' hS => Ex.load ty46 rfl (hS.cell (M111.cell (i := 1) rfl (u32V_at (i := i) (by rw [hW64.1]; omega) (by simp only [Int.toNat_natCast, Nat.mul_one, Nat.zero_add]))) (fun f => f))) ?_
        refine WP.as rfl rfl rfl rfl (Ac.call rfl Tryd.func111 nm111 rfl (downT_ok w111 _ 6 (u32s_get hR) (by decide))) ?_; rintro v138 w138 ⟨rfl, K138⟩
        refine ⟨Keep nof w138, fun u h => K138.trans h, Keep.refl _ _, ?_⟩
        have M138 := M111.step K138
        refine WP.as rfl rfl rfl rfl (Ac.call rfl Tryd.func111 nm111 rfl (downT_ok w138 _ 11 (u32s_get hR) (by decide))) ?_; rintro v139 w139 ⟨rfl, K139⟩
        refine ⟨Keep nof w139, fun u h => K139.trans h, Keep.refl _ _, ?_⟩
        have M139 := M138.step K139
        refine WP.as rfl rfl rfl rfl (Ac.call rfl Tryd.func111 nm111 rfl (downT_ok w139 _ 25 (u32s_get hR) (by decide))) ?_; rintro v140 w140 ⟨rfl, K140⟩
        refine ⟨Keep nof w140, fun u h => K140.trans h, Keep.refl _ _, ?_⟩
        have M140 := M139.step K140
        refine WP.as rfl rfl rfl rfl (Ac.call rfl Tryd.func110 nm110 rfl (both_ok w140 _ _ _ (rotr_lt (n := 6) (by decide) (u32s_get hR)) (rotr_lt (n := 11) (by decide) (u32s_get hR)) (rotr_lt (n := 25) (by decide) (u32s_get hR)))) ?_; rintro v141 w141 ⟨rfl, K141⟩
        refine ⟨Keep nof w141, fun u h => K141.trans h, Keep.refl _ _, ?_⟩
        have M141 := M140.step K141
        refine WP.p rfl rfl rfl rfl (fun _ => Ex.add rfl rfl (add32N _ _)) ?_
        refine WP.p rfl rfl rfl rfl (fun _ => Ex.add rfl rfl (add32N _ _)) ?_
        refine WP.p rfl rfl rfl rfl (fun _ => Ex.add rfl rfl (add32N _ _)) ?_
        refine WP.p rfl rfl rfl rfl (fun _ => Ex.add rfl rfl (add32N _ _)) ?_
        refine WP.p rfl rfl rfl rfl (fun _ => Ex.asg rfl) ?_
        refine WP.nil ?_
        refine WX.next ?_
        refine WC.seq ?_
        refine WC.draw (Keep nof w141.drew) [] (.one 0 0 (.one 3 0 (.one 6 0 (.one 10 0 (.one 12 0 (.one 15 0 (.one 17 0 (.one 21 0 (.one 23 0 (.one 1 1 (.one 4 1 (.one 7 1 (.one 11 1 (.one 13 1 (.one 14 0 (.one 16 1 (.one 18 1 (.one 19 0 (.one 20 0 (.one 22 1 (.one 24 1 (.one 25 0 (.one 26 0 (.one 2 2 (.one 5 2 (.one 8 2 (.one 9 2 (.one 27 0 (.one 28 0 .nil))))))))))))))))))))))))))))) mixed (by kernel_rfl) (by kernel_rfl) (by kernel_rfl) (HQ.then_ (HQ.block (HQ.then_ (HQ.then_ (HQ.block (HQ.then_ (HQ.block (HQ.then_ (HQ.then_ (HQ.block (HQ.then_ HQ.body))))))))))) ?_
        obtain ⟨w147, hw147⟩ : ∃ v, v = w141.drew := ⟨_, rfl⟩
        have D147 : Keep nof w141 w147 := by rw [hw147]; exact Keep.drew _ _
        have M147 := M141.step D147
        rw [← hw147]; clear hw147
        refine WP.p rfl rfl rfl rfl (fun _ => Ex.iaA Tryd.underlying164 sz46 rfl rfl ⟨by omega, by omega⟩) ?_
        refine WP.p rfl rfl rfl rfl (fun _ => Ex.iaA Tryd.underlying164 sz46 rfl rfl ⟨by omega, by omega⟩) ?_
        refine WP.p rfl rfl rfl rfl (fun _ => Ex.iaA Tryd.underlying164 sz46 rfl rfl ⟨by omega, by omega⟩) ?_
        refine WP.p rfl rfl rfl rfl (fun _ => Ex.iaA Tryd.underlying164 sz46 rfl rfl ⟨by omega, by omega⟩) ?_
        refine WP.p rfl rfl rfl rfl (fun _ => Ex.iaA Tryd.underlying164 sz46 rfl rfl ⟨by omega, by omega⟩) ?_
        refine WP.p rfl rfl rfl rfl (fun _ => Ex.iaA Tryd.underlying164 sz46 rfl rfl ⟨by omega, by omega⟩) ?_
        refine WP.p rfl rfl rfl rfl (fun _ => Ex.iaA Tryd.underlying164 sz46 rfl rfl ⟨by omega, by omega⟩) ?_
        refine WP.p rfl rfl rfl rfl (fun _ => Ex.iaA Tryd.underlying164 sz46 rfl rfl ⟨by omega, by omega⟩) ?_
        refine WP.p rfl rfl rfl rfl (fun _ => Ex.iaA Tryd.underlying164 sz46 rfl rfl ⟨by omega, by omega⟩) ?_
        refine WP.q (Keep.refl _ _) rfl rfl rfl rfl (fun w' hS => Ex.load ty46 rfl (hS.cell (M147.cell (i := 0) rfl (u32V_at (i := 0) (by rw [hR.1]; decide) rfl)) (fun f => f))) ?_
        refine WP.q (Keep.refl _ _) rfl rfl rfl rfl (fun w' hS => Ex.load ty46 rfl (hS.cell (M147.cell (i := 0) rfl (u32V_at (i := 0) (by rw [hR.1]; decide) rfl)) (fun f => f))) ?_
        refine WP.q (Keep.refl _ _) rfl rfl rfl rfl (fun w' hS => Ex.load ty46 rfl (hS.cell (M147.cell (i := 0) rfl (u32V_at (i := 0) (by rw [hR.1]; decide) rfl)) (fun f => f))) ?_
        refine WP.q (Keep.refl _ _) rfl rfl rfl rfl (fun w' hS => Ex.load ty46 rfl (hS.cell (M147.cell (i := 0) rfl (u32V_at (i := 0) (by rw [hR.1]; decide) rfl)) (fun f => f))) ?_
        refine WP.q (Keep.refl _ _) rfl rfl rfl rfl (fun w' hS => Ex.load ty46 rfl (hS.cell (M147.cell (i := 0) rfl (u32V_at (i := 1) (by rw [hR.1]; decide) rfl)) (fun f => f))) ?_
        refine WP.p rfl rfl rfl rfl (fun _ => Ex.band rfl rfl (band32 (by first | exact u32s_get (by assumption) | assumption | exact and32 (by first | exact u32s_get (by assumption) | omega) | omega | exact xor32 (and32 (by first | exact u32s_get (by assumption) | omega)) (and32 (by first | exact u32s_get (by assumption) | omega))) (by first | exact u32s_get (by assumption) | assumption | exact and32 (by first | exact u32s_get (by assumption) | omega) | omega | exact xor32 (and32 (by first | exact u32s_get (by assumption) | omega)) (and32 (by first | exact u32s_get (by assumption) | omega))) rfl)) ?_
        refine WP.q (Keep.refl _ _) rfl rfl rfl rfl (fun w' hS => Ex.load ty46 rfl (hS.cell (M147.cell (i := 0) rfl (u32V_at (i := 0) (by rw [hR.1]; decide) rfl)) (fun f => f))) ?_
        refine WP.q (Keep.refl _ _) rfl rfl rfl rfl (fun w' hS => Ex.load ty46 rfl (hS.cell (M147.cell (i := 0) rfl (u32V_at (i := 2) (by rw [hR.1]; decide) rfl)) (fun f => f))) ?_
        refine WP.p rfl rfl rfl rfl (fun _ => Ex.band rfl rfl (band32 (by first | exact u32s_get (by assumption) | assumption | exact and32 (by first | exact u32s_get (by assumption) | omega) | omega | exact xor32 (and32 (by first | exact u32s_get (by assumption) | omega)) (and32 (by first | exact u32s_get (by assumption) | omega))) (by first | exact u32s_get (by assumption) | assumption | exact and32 (by first | exact u32s_get (by assumption) | omega) | omega | exact xor32 (and32 (by first | exact u32s_get (by assumption) | omega)) (and32 (by first | exact u32s_get (by assumption) | omega))) rfl)) ?_
        refine WP.p rfl rfl rfl rfl (fun _ => Ex.bor rfl rfl (bor32 (and32 (u32s_get hR)) (and32 (u32s_get hR)) rfl)) ?_
        refine WP.q (Keep.refl _ _) rfl rfl rfl rfl (fun w' hS => Ex.load ty46 rfl (hS.cell (M147.cell (i := 0) rfl (u32V_at (i := 1) (by rw [hR.1]; decide) rfl)) (fun f => f))) ?_
        refine WP.q (Keep.refl _ _) rfl rfl rfl rfl (fun w' hS => Ex.load ty46 rfl (hS.cell (M147.cell (i := 0) rfl (u32V_at (i := 2) (by rw [hR.1]; decide) rfl)) (fun f => f))) ?_
        refine WP.p rfl rfl rfl rfl (fun _ => Ex.band rfl rfl (band32 (by first | exact u32s_get (by assumption) | assumption | exact and32 (by first | exact u32s_get (by assumption) | omega) | omega | exact xor32 (and32 (by first | exact u32s_get (by assumption) | omega)) (and32 (by first | exact u32s_get (by assumption) | omega))) (by first | exact u32s_get (by assumption) | assumption | exact and32 (by first | exact u32s_get (by assumption) | omega) | omega | exact xor32 (and32 (by first | exact u32s_get (by assumption) | omega)) (and32 (by first | exact u32s_get (by assumption) | omega))) rfl)) ?_
        refine WP.p rfl rfl rfl rfl (fun _ => Ex.bor rfl rfl (c := ((maj (a.getD 0 0) (a.getD 1 0) (a.getD 2 0) : Nat) : Int)) (bor32 (or32 (and32 (u32s_get hR)) (and32 (u32s_get hR))) (and32 (u32s_get hR)) (maj_or _ _ _))) ?_
        refine WP.as rfl rfl rfl rfl (Ac.call rfl Tryd.func111 nm111 rfl (downT_ok w147 _ 2 (u32s_get hR) (by decide))) ?_; rintro v171 w171 ⟨rfl, K171⟩
        refine ⟨Keep nof w171, fun u h => K171.trans h, Keep.refl _ _, ?_⟩
        have M171 := M147.step K171
        refine WP.as rfl rfl rfl rfl (Ac.call rfl Tryd.func111 nm111 rfl (downT_ok w171 _ 13 (u32s_get hR) (by decide))) ?_; rintro v172 w172 ⟨rfl, K172⟩
        refine ⟨Keep nof w172, fun u h => K172.trans h, Keep.refl _ _, ?_⟩
        have M172 := M171.step K172
        refine WP.as rfl rfl rfl rfl (Ac.call rfl Tryd.func111 nm111 rfl (downT_ok w172 _ 22 (u32s_get hR) (by decide))) ?_; rintro v173 w173 ⟨rfl, K173⟩
        refine ⟨Keep nof w173, fun u h => K173.trans h, Keep.refl _ _, ?_⟩
        have M173 := M172.step K173
        refine WP.as rfl rfl rfl rfl (Ac.call rfl Tryd.func110 nm110 rfl (both_ok w173 _ _ _ (rotr_lt (n := 2) (by decide) (u32s_get hR)) (rotr_lt (n := 13) (by decide) (u32s_get hR)) (rotr_lt (n := 22) (by decide) (u32s_get hR)))) ?_; rintro v174 w174 ⟨rfl, K174⟩
        refine ⟨Keep nof w174, fun u h => K174.trans h, Keep.refl _ _, ?_⟩
        have M174 := M173.step K174
        refine WP.p rfl rfl rfl rfl (fun _ => Ex.add rfl rfl (add32N _ _)) ?_
        refine WP.p rfl rfl rfl rfl (fun _ => Ex.asg rfl) ?_
        refine WP.nil ?_
        refine WX.next ?_
        refine WC.region ?_
        refine qA ?_
        refine qA ?_
        refine WL.ex rfl rfl rfl (Ex.add rfl rfl (add32N _ _)) ?_
        refine WL.ex rfl rfl rfl (Ex.iaA Tryd.underlying164 sz46 rfl rfl ⟨by omega, by omega⟩) ?_
        refine WL.ex rfl rfl rfl (Ex.load ty46 rfl (M174.cell (i := 0) rfl (u32V_at (i := 0) (by rw [((by first | assumption | exact (u32s_0 8)) : U32s 8 _).1]; decide) rfl))) ?_
        refine WL.ex rfl rfl rfl (Ex.iaA Tryd.underlying164 sz46 rfl rfl ⟨by omega, by omega⟩) ?_
        refine WL.ex rfl rfl rfl (Ex.load ty46 rfl (M174.cell (i := 0) rfl (u32V_at (i := 1) (by rw [((by first | assumption | exact (u32s_0 8)) : U32s 8 _).1]; decide) rfl))) ?_
        refine WL.ex rfl rfl rfl (Ex.iaA Tryd.underlying164 sz46 rfl rfl ⟨by omega, by omega⟩) ?_
        refine WL.ex rfl rfl rfl (Ex.load ty46 rfl (M174.cell (i := 0) rfl (u32V_at (i := 2) (by rw [((by first | assumption | exact (u32s_0 8)) : U32s 8 _).1]; decide) rfl))) ?_
        refine WL.ex rfl rfl rfl (Ex.iaA Tryd.underlying164 sz46 rfl rfl ⟨by omega, by omega⟩) ?_
        refine WL.ex rfl rfl rfl (Ex.load ty46 rfl (M174.cell (i := 0) rfl (u32V_at (i := 3) (by rw [((by first | assumption | exact (u32s_0 8)) : U32s 8 _).1]; decide) rfl))) ?_
        refine qA ?_
        refine WL.ex rfl rfl rfl (Ex.add rfl rfl (add32N _ _)) ?_
        refine WL.ex rfl rfl rfl (Ex.iaA Tryd.underlying164 sz46 rfl rfl ⟨by omega, by omega⟩) ?_
        refine WL.ex rfl rfl rfl (Ex.load ty46 rfl (M174.cell (i := 0) rfl (u32V_at (i := 4) (by rw [((by first | assumption | exact (u32s_0 8)) : U32s 8 _).1]; decide) rfl))) ?_
        refine WL.ex rfl rfl rfl (Ex.iaA Tryd.underlying164 sz46 rfl rfl ⟨by omega, by omega⟩) ?_
        refine WL.ex rfl rfl rfl (Ex.load ty46 rfl (M174.cell (i := 0) rfl (u32V_at (i := 5) (by rw [((by first | assumption | exact (u32s_0 8)) : U32s 8 _).1]; decide) rfl))) ?_
        refine WL.ex rfl rfl rfl (Ex.iaA Tryd.underlying164 sz46 rfl rfl ⟨by omega, by omega⟩) ?_
        refine WL.ex rfl rfl rfl (Ex.load ty46 rfl (M174.cell (i := 0) rfl (u32V_at (i := 6) (by rw [((by first | assumption | exact (u32s_0 8)) : U32s 8 _).1]; decide) rfl))) ?_
        refine WL.ex rfl rfl rfl (Ex.bldS bd164 (parts := [(0, .tmp 173), (1, .tmp 175), (2, .tmp 177), (3, .tmp 179), (4, .tmp 183), (5, .tmp 185), (6, .tmp 187), (7, .tmp 189)]) _ rfl rfl rfl bld8) ?_
        refine WL.ac0 rfl rfl (Ac.stA M174 ty164 rfl rfl rfl rfl (u32V_one _) (i := 0) rfl (by simp [hR.1, u32V])) ?_; rintro v197 w197 ⟨K197, M197⟩
        try dsimp only [List.set] at M197
        rw [splice_all _ _ (by simp [hR.1, u32V])] at M197
        replace M197 := M197.eqv (i := 0) rfl (r' := blk gl (u32V (rAt hh W (i + 1))) 164) (congrArg (fun x => blk gl (u32V x) 164) (by rw [hrs]; simp only [rnd, three, List.cons.injEq, and_true, true_and]; constructor <;> omega))
        try dsimp only [List.set] at M197
        refine WL.nil ?_
        refine WX.normal_block (WX.next (?_))
        refine WC.region ?_
        refine WL.ex rfl rfl rfl (Ex.add rfl rfl (i64w _ (by omega) (by omega))) ?_
        refine qA ?_
        refine WL.nil ?_
        refine WX.again (i + 1) ?_ ?_ (.cons rfl (.cons rfl (.cons rfl (.cons rfl (.cons rfl (.cons rfl (.cons rfl (.nil))))))))
        · (try dsimp only); omega
        · exact ⟨by omega, by rw [hrs]; exact rnd_ok hR _ _, M197⟩
      · obtain rfl : i = 64 := by omega
        refine WC.exit ?_
        refine WX.exit_then (WX.exit_then (WX.exit_block (WX.next (?_))))
        refine qD ?_
        refine qA ?_
        refine qE ?_
        refine WC.block ?_
        refine WC.loop (σ := Nat) (fun i => [(2, .pointer (some ⟨g2, 0, none⟩)), (3, .pointer (some ⟨gh, 0, none⟩)), (4, .slice (some ⟨ga, 0, none⟩) (pad b).length cp), (5, .int .i64 ((64 * k : Nat) : Int)), (11, .pointer (some ⟨gl, 0, none⟩)), (192, .int .i64 (i : Int))]) (fun i wr => i ≤ 8 ∧ Mem w wr nof [blk gl (u32V (rAt hh W 64)) 164, row (.slice (some ⟨ga, 0, none⟩) (pad b).length cp) 5 1 (pad b).length (bytesV (pad b)), blk gh (u32V (addT hh (rAt hh W 64) i)) 164, blk g2 (bytesV (List.replicate 32 0)) 31]) (fun i => 8 - i) (0) ?_ (.cons rfl (.cons rfl (.cons rfl (.cons rfl (.cons rfl (.cons rfl (.nil))))))) ?_
        · exact ⟨by decide, by rw [addT_0 hh8.1]; exact (Mem.sub M107 (.cons_cons _ (.cons _ (.refl _))))⟩
        rintro i w201 ⟨hi, M201⟩
        refine qD ?_
        refine WL.ex rfl rfl rfl (Ex.lss rfl rfl) ?_
        refine qE ?_
        refine WC.seq ?_
        refine WC.cond_dec rfl (fun hi8 => ?_) (fun hi8 => ?_)
        · have hi8b : i < 8 := by omega
          have hRl := (rAt_ok hh8 W 64).1
          have hal : (addT hh (rAt hh W 64) i).length = 8 := by simp [addT]
          refine WC.skip ?_
          refine WX.next ?_
          refine WC.seq ?_
          refine WC.block ?_
          refine qD ?_
          refine qA ?_
          refine qB ?_
          refine qE ?_
          refine WC.draw (Keep nof w201.drew) [9] (.one 0 0 (.one 1 0 (.one 2 0 (.one 4 0 (.one 5 0 (.one 3 1 (.one 6 1 (.one 7 0 (.one 8 0 (.one 9 2 .nil)))))))))) mixed (by kernel_rfl) (by kernel_rfl) (by kernel_rfl) (HQ.block (HQ.then_ (HQ.then_ (HQ.block (HQ.block (HQ.then_ (HQ.then_ (HQ.block (HQ.then_ HQ.body))))))))) ?_
          obtain ⟨w205, hw205⟩ : ∃ v, v = w201.drew := ⟨_, rfl⟩
          have D205 : Keep nof w201 w205 := by rw [hw205]; exact Keep.drew _ _
          have M205 := M201.step D205
          rw [← hw205]; clear hw205
          refine qC ?_
          refine qC ?_
          refine WP.p rfl rfl rfl rfl (fun _ => Ex.iaA Tryd.underlying164 sz46 rfl rfl ⟨by omega, by omega⟩) ?_
          refine qC ?_
          refine WP.p rfl rfl rfl rfl (fun _ => Ex.iaA Tryd.underlying164 sz46 rfl rfl ⟨by omega, by omega⟩) ?_
          refine WP.q (Keep.refl _ _) rfl rfl rfl rfl (fun w' hS => Ex.load ty46 rfl (hS.cell (M205.cell (i := 2) rfl (u32V_at (i := i) (by rw [hal]; omega) (by simp only [Int.toNat_natCast, Nat.mul_one, Nat.zero_add]))) (fun f => f))) ?_
          refine WP.q (Keep.refl _ _) rfl rfl rfl rfl (fun w' hS => Ex.load ty46 rfl (hS.cell (M205.cell (i := 0) rfl (u32V_at (i := i) (by rw [hRl]; omega) (by simp only [Int.toNat_natCast, Nat.mul_one, Nat.zero_add]))) (fun f => f))) ?_
          refine WP.p rfl rfl rfl rfl (fun _ => Ex.add rfl rfl (add32N _ _)) ?_
          refine WP.p rfl rfl rfl rfl (fun _ => Ex.iaA Tryd.underlying164 sz46 rfl rfl ⟨by omega, by omega⟩) ?_
          refine WP.a0 rfl rfl rfl (Ac.st M205 ty46 rfl rfl rfl (i := 2) rfl (by simp [hal]; omega)) ?_; rintro v215 w215 ⟨K215, M215⟩; refine .inl ⟨rfl, Keep nof w215, ?_⟩
          try dsimp only [List.set] at M215
          simp only [Int.toNat_natCast, Nat.mul_one, Nat.zero_add] at M215
          rw [u32V_set, addT_get hi8b, if_neg (by omega), addT_set hi8b] at M215
          refine WP.nil ?_
          refine WX.normal_block (WX.next (?_))
          refine WC.region ?_
          refine WL.ex rfl rfl rfl (Ex.add rfl rfl (i64w _ (by omega) (by omega))) ?_
          refine qA ?_
          refine WL.nil ?_
          refine WX.again (i + 1) ?_ ?_ (.cons rfl (.cons rfl (.cons rfl (.cons rfl (.cons rfl (.cons rfl (.nil)))))))
          · (try dsimp only); omega
          · exact ⟨by omega, M215⟩
        · obtain rfl : i = 8 := by omega
          rw [hcomp, ← hcs] at M201
          refine WC.exit ?_
          refine WX.exit_then (WX.exit_then (WX.exit_block (WX.normal_block (WX.next (?_)))))
          refine WC.region ?_
          refine qA ?_
          refine WL.ex rfl rfl rfl (Ex.add rfl rfl (i64w _ (by omega) (by omega))) ?_
          refine qB ?_
          refine WL.nil ?_
          refine WX.again (k + 1) ?_ ?_ (.cons rfl (.cons rfl (.cons rfl (.cons rfl (.nil)))))
          · (try dsimp only); omega
          · exact ⟨by omega, (Mem.sub M201 (.cons _ (.refl _)))⟩
  · have hkk : k = (pad b).length / 64 := by omega
    have hsha : outB (comps k hBeg (pad b)) = sha b := by rw [hkk]; rfl
    have hh8 := comps_ok k hBeg_ok (pad b)
    obtain ⟨hh, hhe⟩ : ∃ hh, hh = comps k hBeg (pad b) := ⟨_, rfl⟩
    rw [← hhe] at hh8 hsha M9
    refine WC.exit ?_
    refine WX.exit_then (WX.exit_then (WX.exit_block (WX.next (?_))))
    refine qD ?_
    refine WL.ac rfl rfl rfl (Ac.alloc M9 (l := bytesV (List.replicate 32 0)) (by kernel_rfl)) ?_; rintro v221 w221 ⟨g16, rfl, hg221, K221, M221⟩
    refine qE ?_
    refine WC.seq ?_
    refine qD ?_
    refine qA ?_
    refine qE ?_
    refine WC.block ?_
    refine WC.loop (σ := Nat) (fun i => [(2, .pointer (some ⟨g2, 0, none⟩)), (3, .pointer (some ⟨gh, 0, none⟩)), (16, .pointer (some ⟨g16, 0, none⟩)), (205, .int .i64 (i : Int))]) (fun i wr => i ≤ 8 ∧ Mem w wr nof [blk g16 (bytesV (outP hh i 0)) 31, blk gh (u32V hh) 164, blk g2 (bytesV (List.replicate 32 0)) 31]) (fun i => 8 - i) (0) ?_ (.cons rfl (.cons rfl (.cons rfl (.cons rfl (.nil))))) ?_
    · exact ⟨by decide, by rw [outP_0]; exact (Mem.sub M221 (.cons_cons _ (.cons _ (.refl _))))⟩
    rintro i w223 ⟨hi, M223⟩
    refine qD ?_
    refine WL.ex rfl rfl rfl (Ex.lss rfl rfl) ?_
    refine qE ?_
    refine WC.seq ?_
    refine WC.cond_dec rfl (fun hi8 => ?_) (fun hi8 => ?_)
    · have hi8b : i < 8 := by omega
      have hgx := u32s_get (i := i) hh8
      refine WC.skip ?_
      refine WX.next ?_
      refine WC.seq ?_
      refine WC.block ?_
      refine qD ?_
      refine qA ?_
      refine qB ?_
      refine qE ?_
      refine qD ?_
      refine qA ?_
      refine WL.ex rfl rfl rfl (Ex.iaA Tryd.underlying164 sz46 rfl rfl ⟨by omega, by omega⟩) ?_
      refine WL.ex rfl rfl rfl (Ex.load ty46 rfl (M223.cell (i := 1) rfl (u32V_at (i := i) (by rw [hh8.1]; omega) (by simp only [Int.toNat_natCast, Nat.mul_one, Nat.zero_add])))) ?_
      refine qB ?_
      refine qE ?_
      refine qD ?_
      refine qB ?_
      refine qE ?_
      refine WC.block ?_
      refine WC.loop (σ := Nat) (fun m => [(2, .pointer (some ⟨g2, 0, none⟩)), (3, .pointer (some ⟨gh, 0, none⟩)), (16, .pointer (some ⟨g16, 0, none⟩)), (17, .int .i64 (i : Int)), (18, .int .u32 ((hh.getD i 0 / 256 ^ m : Nat) : Int)), (19, .int .i64 (3 - (m : Int))), (205, .int .i64 (i : Int))]) (fun m wr => m ≤ 4 ∧ Mem w wr nof [blk g16 (bytesV (outP hh i m)) 31, blk gh (u32V hh) 164, blk g2 (bytesV (List.replicate 32 0)) 31]) (fun m => 4 - m) (0) ?_ (.cons rfl (.cons rfl (.cons rfl (.cons rfl (.cons (congrArg some (congrArg (Value.int .u32) (by simp))) (.cons (congrArg some (congrArg (Value.int .i64) (by omega))) (.cons rfl .nil))))))) ?_
      · exact ⟨by decide, M223⟩
      rintro m w232 ⟨hm, M232⟩
      refine WC.seq ?_
      refine qD ?_
      refine qA ?_
      refine WL.ex rfl rfl rfl (Ex.geq rfl rfl) ?_
      refine qE ?_
      refine WC.cond_dec rfl (fun hm4 => ?_) (fun hm4 => ?_)
      · have hm4b : m < 4 := by omega
        refine WC.skip ?_
        refine WX.next ?_
        refine WC.seq ?_
        refine WC.block ?_
        refine qD ?_
        refine qA ?_
        refine WL.ex rfl rfl rfl (Ex.mul rfl rfl (c := ((4 * i : Nat) : Int)) (by rw [i64w _ (by omega) (by omega)]; omega)) ?_
        refine qA ?_
        refine WL.ex rfl rfl rfl (Ex.add rfl rfl (c := ((4 * i + (3 - m) : Nat) : Int)) (by rw [i64w _ (by omega) (by omega)]; omega)) ?_
        refine qA ?_
        refine WL.ex rfl rfl rfl (Ex.rem rfl rfl (by decide) (c := ((hh.getD i 0 / 256 ^ m % 256 : Nat) : Int)) (remN _ 256)) ?_
        refine WL.ex rfl rfl rfl (Ex.cvI Tryd.underlying46 Tryd.underlying5 rfl (c := ((UInt8.ofNat (hh.getD i 0 / 2 ^ (8 * m))).toNat : Int)) (by rw [u8b, ofNat_mod, Nat.pow_mul])) ?_
        refine WL.ex rfl rfl rfl (Ex.iaA Tryd.underlying31 sz5 rfl rfl ⟨by omega, by omega⟩) ?_
        refine WL.ac0 rfl rfl (Ac.st M232 ty5 rfl rfl rfl (i := 0) rfl (by simp [outP]; omega)) ?_; rintro v243 w243 ⟨K243, M243⟩
        try dsimp only [List.set] at M243
        simp only [Int.toNat_natCast, Nat.mul_one, Nat.zero_add] at M243
        rw [bytesV_set, outP_set hh hi8b hm4b] at M243
        refine qE ?_
        refine WC.region ?_
        refine qA ?_
        refine WL.ex rfl rfl rfl (Ex.quo rfl rfl (by decide) (c := ((hh.getD i 0 / 256 ^ (m + 1) : Nat) : Int)) (by rw [Nat.pow_succ, ← Nat.div_div_eq_div_mul, show ((((hh.getD i 0 / 256 ^ m : Nat) : Int)).tdiv 256) = ((hh.getD i 0 / 256 ^ m / 256 : Nat) : Int) from (Int.ofNat_tdiv _ 256).symm]; exact u32w_lt _ (Nat.lt_of_le_of_lt (Nat.div_le_self _ _) (Nat.lt_of_le_of_lt (Nat.div_le_self _ _) hgx)))) ?_
        refine qB ?_
        refine WL.nil ?_
        refine WX.normal_block (WX.next (?_))
        refine WC.region ?_
        refine qA ?_
        refine WL.ex rfl rfl rfl (Ex.sub rfl rfl (i64w _ (by omega) (by omega))) ?_
        refine qB ?_
        refine WL.nil ?_
        refine WX.again (m + 1) ?_ ?_ (.cons rfl (.cons rfl (.cons rfl (.cons rfl (.cons rfl (.cons (congrArg some (congrArg (Value.int .i64) (by omega))) (.cons rfl .nil)))))))
        · (try dsimp only); omega
        · exact ⟨by omega, M243⟩
      · obtain rfl : m = 4 := by omega
        refine WC.exit ?_
        refine WX.exit_then (WX.exit_then (WX.exit_block (WX.normal_block (WX.next (?_)))))
        refine WC.region ?_
        refine WL.ex rfl rfl rfl (Ex.add rfl rfl (i64w _ (by omega) (by omega))) ?_
        refine qA ?_
        refine WL.nil ?_
        refine WX.again (i + 1) ?_ ?_ (.cons rfl (.cons rfl (.cons rfl (.cons rfl (.nil)))))
        · (try dsimp only); omega
        · exact ⟨by omega, by rw [← outP_4]; exact M232⟩
    · obtain rfl : i = 8 := by omega
      rw [outP_8, hsha] at M223
      refine WC.exit ?_
      refine WX.exit_then (WX.exit_then (WX.exit_block (WX.next (?_))))
      refine qD ?_
      refine WL.ex rfl rfl rfl (Ex.loadA ty31 rfl (h32_len hs32) (M223.rdw (i := 0) rfl)) ?_
      refine WL.ac0 rfl rfl (Ac.stA M223 ty31 rfl rfl rfl (h32_len hs32) (bytesV_one _) (i := 2) rfl (by rw [h32_len hs32, h32_len h32_0]; decide)) ?_; rintro v253 w253 ⟨K253, M253⟩
      try dsimp only [List.set] at M253
      rw [splice_all _ _ (by rw [h32_len hs32, h32_len h32_0])] at M253
      refine qE ?_
      refine WC.ret ?_
      refine WX.retc rfl rfl (run_loadVarA ty31 (by exact h32_len hs32) (M253.rdw (i := 2) rfl)) ?_
      exact ⟨rfl, M253.keep⟩

end Go.Proofs.YtchmjpdkonfifaaDoor

set_option linter.unusedVariables false
set_option linter.unusedSimpArgs false
namespace Go.Proofs.YtchmjpdkonfifaaDoor
open Go.Sx Go.RowKit
attribute [local irreducible] Ac Ex WL WC WX WP Gives

theorem eqHash (w : World) {a b : List UInt8} (ha : a.length = 32) (hb : b.length = 32) : EqT Tryd.prog 31 (bytesV a) (bytesV b) (decide (a = b)) :=
  EqT.to (EqT_of (w := w) (n := 8) (ks := rep 32 [.int .u8]) (by kernel_rfl) rfl (by kernel_rfl) (by decide) (by kernel_rfl) (by kernel_rfl) (by kernel_rfl)
    (by have := oks_u8 (w := w) a; rw [ha] at this; exact this) (by have := oks_u8 (w := w) b; rw [hb] at this; exact this)) ⟨bytesV_inj, fun e => by rw [e]⟩

theorem RdP.one {w : World} {gs : Nat} {p : SV} {e : TypeId} (h0 : (blk gs [svV p] e).sat w) (hr : Rd w p.A (bytesV p.l)) : RdP w (some ⟨gs, 0, none⟩) [p] :=
  ⟨blk_rdt (o := 0) (m := 1) (xs := [svV p]) h0 rfl, fun q hq => by obtain rfl : q = p := (by simpa using hq); exact hr⟩
theorem flatP_one (A : Option Addr) (c : Nat) (l : List UInt8) : flatP [⟨A, c, l⟩] = l := by simp [flatP]
theorem shaH (l : List UInt8) : H32 (sha l) := sha_length l

end Go.Proofs.YtchmjpdkonfifaaDoor
