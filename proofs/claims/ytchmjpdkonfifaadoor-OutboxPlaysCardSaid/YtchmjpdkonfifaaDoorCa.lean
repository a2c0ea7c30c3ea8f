/- Walks, written by gen.py off the translation's own print: each says what the Go function comes to. -/
import Derived.Test.YtchmjpdkonfifaaDoorFacts
import Derived.Test.YtchmjpdkonfifaaDoorSha
import Derived.Test.YtchmjpdkonfifaaDoorCod
set_option linter.unusedVariables false
set_option linter.unusedSimpArgs false
namespace Go.Proofs.YtchmjpdkonfifaaDoor
open Go.Sx Go.RowKit
attribute [local irreducible] Ac Ex WL WC WX WP Gives

theorem u32wN (a : Nat) : IntKind.u32.wrap (a : Int) = ((a % 4294967296 : Nat) : Int) := u32w a
theorem shl32 {x n : Nat} (hn : n ≤ 32) (hx : x < 4294967296) : IntKind.u32.wrap ((x : Int) * 2 ^ (min n IntKind.u32.bits)) = ((x % 2 ^ (32 - n) * 2 ^ n : Nat) : Int) := by
  have e0 : min n IntKind.u32.bits = n := by simp [IntKind.bits]; omega
  have e : 2 ^ n * 2 ^ (32 - n) = 4294967296 := by rw [← Nat.pow_add, Nat.add_sub_cancel' hn]
  rw [e0, show ((x : Int) * 2 ^ n) = ((x * 2 ^ n : Nat) : Int) by push_cast; rfl, u32w]
  congr 1
  rw [← e, Nat.mul_comm (2 ^ n), Nat.mul_mod_mul_right]
theorem bor32 {a b c : Nat} (ha : a < 4294967296) (hb : b < 4294967296) (hc : a ||| b = c) : bits .or .u32 (a : Int) (b : Int) = (c : Int) := by rw [← hc]; exact u32_or_nat a b ha hb
theorem bxor32 {a b c : Nat} (ha : a < 4294967296) (hb : b < 4294967296) (hc : a ^^^ b = c) : bits .xor .u32 (a : Int) (b : Int) = (c : Int) := by rw [← hc]; exact u32_xor_nat a b ha hb
theorem band32 {a b c : Nat} (ha : a < 4294967296) (hb : b < 4294967296) (hc : a &&& b = c) : bits .and .u32 (a : Int) (b : Int) = (c : Int) := by rw [← hc]; exact u32_and_nat a b ha hb
theorem com32 {x : Nat} (hx : x < 4294967296) : bits .xor .u32 IntKind.u32.max (x : Int) = ((4294967295 - x : Nat) : Int) := by
  rw [show IntKind.u32.max = ((4294967295 : Nat) : Int) by decide]
  refine bxor32 (a := 4294967295) (by decide) hx ?_
  apply Nat.eq_of_testBit_eq
  intro i
  rw [tb_com hx, Nat.testBit_xor, show (4294967295 : Nat) = 2 ^ 32 - 1 by decide, Nat.testBit_two_pow_sub_one]
  by_cases h : i < 32
  · simp [h]
  · have : x.testBit i = false := Nat.testBit_lt_two_pow (Nat.lt_of_lt_of_le hx (Nat.pow_le_pow_right (show 0 < 2 by decide) (by omega : 32 ≤ i)))
    simp [h, this]
theorem shr32 (x n : Nat) (hn : n ≤ 32) : ((x : Nat) : Int).fdiv (2 ^ min n IntKind.u32.bits) = ((x / 2 ^ n : Nat) : Int) := shrN _ _ _ (by simpa [IntKind.bits] using hn)
theorem u32V_inj {a b : List Nat} (h : u32V a = u32V b) : a = b := by
  induction a generalizing b with
  | nil => cases b with
    | nil => rfl
    | cons x r => simp [u32V] at h
  | cons x r ih => cases b with
    | nil => simp [u32V] at h
    | cons y s =>
      simp only [u32V, List.map_cons, List.cons.injEq, Value.int.injEq, true_and] at h
      rw [ih h.2, Int.ofNat.inj h.1]

/-- The tables lie where they are laid. -/
structure Tabs (w : World) : Prop where
  beg : Rd w (some ⟨1, 0, none⟩) (u32V hBeg)
  tab : Rd w (some ⟨2, 0, none⟩) (u32V kTab)
theorem Tabs.keep {w w' : World} (h : Tabs w) (k : Keep nof w w') : Tabs w' := ⟨h.beg.keep0 k, h.tab.keep0 k⟩
theorem Tabs.at_k {w : World} (h : Tabs w) {i : Nat} (hi : i < 64) : w.cell? ⟨2, 0 + ((i : Nat) : Int).toNat * 1, none⟩ = some (.int .u32 ((kTab.getD i 0 : Nat) : Int)) :=
  Rd.at1 h.tab (u32V_at (by simpa [kTab] using hi) (by simp))
/-- A sum that goes on: the words, the bytes that are left, how many went in. -/
abbrev stR (g : Nat) (v : Value) (l : List UInt8) : Res := sep (blk g (stC (stW l) v l.length) 189) (mrw v 5 (bytesV (stB l)))

/-- Parts that can be read, apart from some blocks. -/
structure RdA (w : World) (fp : List Nat) (A : Option Addr) (ps : List SV) : Prop where
  rd : RdP w A ps
  a0 : ∀ a, A = some a → ps ≠ [] → a.block ∉ fp
  a1 : ∀ p ∈ ps, ∀ a, p.A = some a → p.l ≠ [] → a.block ∉ fp
theorem RdA.row {w w1 : World} {fp : List Nat} {A : Option Addr} {ps : List SV} (h : RdA w fp A ps) (k : Keep (· ∈ fp) w w1) : Rd w1 A (ps.map svV) := by
  by_cases hp : ps = []
  · subst hp; exact Rd.nil _ _
  · exact h.rd.1.keep k fun a ha => h.a0 a ha hp
theorem RdA.part {w w1 : World} {fp : List Nat} {A : Option Addr} {ps : List SV} (h : RdA w fp A ps) (k : Keep (· ∈ fp) w w1) {p : SV} (hp : p ∈ ps) : Rd w1 p.A (bytesV p.l) := by
  by_cases hl : p.l = []
  · rw [hl]; exact Rd.nil _ _
  · exact (h.rd.2 p hp).keep k fun a ha => h.a1 p hp a ha hl
def flatP (ps : List SV) : List UInt8 := ps.flatMap (·.l)
theorem flatP_snoc {ps : List SV} {i : Nat} {p : SV} (h : ps[i]? = some p) : flatP (ps.take (i + 1)) = flatP (ps.take i) ++ p.l := by rw [take_snoc h]; simp [flatP]
theorem flatP_take_le (ps : List SV) (i : Nat) : (flatP (ps.take i)).length ≤ (flatP ps).length := by
  have : flatP ps = flatP (ps.take i) ++ flatP (ps.drop i) := by rw [flatP, flatP, flatP, ← List.flatMap_append, List.take_append_drop]
  rw [this, List.length_append]; omega
theorem mrw_mv {w : World} {v v' : Value} {e : TypeId} {xs ys : List Value} (h : (mrw v e xs).sat w) (hv : v = v') (hx : xs = ys) : (mrw v' e ys).sat w := by subst hv; subst hx; exact h

theorem mrw_drop_fp {A : Option Addr} {k m n n2 c c2 : Nat} {e : TypeId} {xs ys : List Value} {b : Nat} (h : b ∈ (mrw (.slice (if c = k then A else A.map (·.add m)) n c2) e ys).fp) : b ∈ (mrw (.slice A n2 c) e xs).fp := by
  split at h
  · cases A with
    | none => simp [mrw, Value.ownBlock] at h
    | some a => simpa [mrw, Value.ownBlock] using h
  · cases A with
    | none => simp [mrw, Value.ownBlock] at h
    | some a => simpa [mrw, Value.ownBlock, block_add] using h
theorem mrw_cap {w : World} {A : Option Addr} {n c : Nat} {e : TypeId} {xs : List Value} (h : (mrw (.slice A n c) e xs).sat w) : xs.length ≤ c ∧ c ≤ maxLen := by
  rcases h with ⟨hv, rfl⟩ | ⟨g, o, cap, cur, hv, hg, h1, h2, h3, h4⟩
  · injection hv with e1 e2 e3
    subst e3
    exact ⟨by simp, by simp [maxLen]⟩
  · injection hv with e1 e2 e3
    subst e3
    exact ⟨h1, h2⟩
theorem Tabs.keepF {w w' : World} {fp : List Nat} (h : Tabs w) (k : Keep (· ∈ fp) w w') (hF : ∀ b ∈ fp, b ≠ 1 ∧ b ≠ 2) : Tabs w' :=
  ⟨h.beg.keep k fun a ha hm => by injection ha with ha; subst ha; exact (hF _ hm).1 rfl, h.tab.keep k fun a ha hm => by injection ha with ha; subst ha; exact (hF _ hm).2 rfl⟩
theorem Tabs.lt {w : World} (h : Tabs w) : 1 < w.heap.size ∧ 2 < w.heap.size := by
  obtain ⟨a, ha, hc⟩ := h.beg 0 _ rfl
  obtain ⟨a', ha', hc'⟩ := h.tab 0 _ rfl
  injection ha with ha
  injection ha' with ha'
  subst ha; subst ha'
  exact ⟨World.block_lt_of_cell? w _ hc, World.block_lt_of_cell? w _ hc'⟩
theorem Tabs.fresh {w : World} (h : Tabs w) {b : Nat} (hb : w.heap.size ≤ b) : b ≠ 1 ∧ b ≠ 2 := by have := h.lt; omega
/-- The tail, byte by byte. -/
def tailTo (n i : Nat) : List UInt8 := [128] ++ List.replicate ((119 - n % 64) % 64) 0 ++ (be 8 (8 * n)).take i
theorem tailTo_8 (n : Nat) : tailTo n 8 = tail n := by rw [tailTo, tail, List.take_of_length_le (by simp)]
theorem tailTo_succ (n : Nat) {i : Nat} (h : i < 8) : tailTo n i ++ [UInt8.ofNat (8 * n / 2 ^ (56 - 8 * i))] = tailTo n (i + 1) := by
  rw [tailTo, tailTo, List.append_assoc, ← take_snoc (be8_get (8 * n) h)]
theorem tailTo_length (n i : Nat) : (tailTo n i).length = 1 + (119 - n % 64) % 64 + min i 8 := by simp [tailTo]; omega
theorem RdA.one {w : World} {fp : List Nat} {gs : Nat} {p : SV} {e : TypeId} (h0 : (blk gs [svV p] e).sat w) (hn : gs ∉ fp) (hr : Rd w p.A (bytesV p.l)) (ha : ∀ a, p.A = some a → p.l ≠ [] → a.block ∉ fp) : RdA w fp (some ⟨gs, 0, none⟩) [p] :=
  ⟨⟨by have := blk_rdt (o := 0) (m := 1) (xs := [svV p]) h0 rfl; exact this, fun q hq => by obtain rfl : q = p := (by simpa using hq); exact hr⟩, fun a ha _ => by injection ha with ha; subst ha; exact hn, fun q hq a h1 h2 => by obtain rfl : q = p := (by simpa using hq); exact ha a h1 h2⟩
theorem row_nblk {A : Option Addr} {n c : Nat} {e : TypeId} {sz : Nat} {xs : List Value} {a : Addr} (ha : A = some a) : a.block ∈ (row (.slice A n c) e sz n xs).fp := by subst ha; simp [row, Value.ownBlock]
theorem RdA.of_old {w : World} {fp : List Nat} {A : Option Addr} {ps : List SV} (h : RdP w A ps) (hf : ∀ b ∈ fp, w.heap.size ≤ b) : RdA w fp A ps := by
  refine ⟨h, fun a ha hne hm => ?_, fun p hp a ha hne hm => ?_⟩
  · have h1 := hf _ hm
    subst ha
    obtain ⟨a', e, hc⟩ := h.1 0 (svV (ps.head hne)) (by cases ps with | nil => exact absurd rfl hne | cons x r => rfl)
    injection e with e
    subst e
    have := World.block_lt_of_cell? w _ hc
    rw [block_add] at this
    omega
  · have h1 := hf _ hm
    subst_vars
    obtain ⟨a', e, hc⟩ := h.2 p hp 0 (byteV (p.l.head hne)) (by rw [bytesV, List.getElem?_map, List.getElem?_eq_getElem (List.length_pos_iff.2 hne)]; simp [List.head_eq_getElem])
    rw [ha] at e
    injection e with e
    subst e
    have := World.block_lt_of_cell? w _ hc
    rw [block_add] at this
    omega
theorem RdA.keep {w w1 : World} {fp : List Nat} {A : Option Addr} {ps : List SV} (h : RdA w fp A ps) (k : Keep nof w w1) : RdA w1 fp A ps := ⟨h.rd.keep k, h.a0, h.a1⟩

/- math/bits.RotateLeft32 -/
theorem rotl_ok (w : World) (x n : Nat) (k : Int) (hx : x < 4294967296) (hn : n ≤ 32) (h0 : 0 < n) (hk : k = -(n : Int)) :
    Gives Tryd.prog 140 #[.int .u32 (x : Int), .int .i64 k] w fun u w1 => u = .int .u32 ((rotr n x : Nat) : Int) ∧ Keep nof w w1 := by
  have M0 := Mem.start w nof
  subst hk
  refine Gives.enter (n := 17) Tryd.func140 rfl Tryd.ntmps140 rfl (env := [(0, .int .u32 (x : Int)), (1, .int .i64 (-(n : Int)))]) rfl ?_
  refine WC.seq ?_
  refine WC.region ?_
  refine WL.ex rfl rfl rfl (Ex.asg rfl) ?_
  refine WL.nil ?_
  refine WX.next (?_)
  refine WC.seq ?_
  refine WC.region ?_
  refine WL.ex rfl rfl rfl (Ex.mv rfl) ?_
  refine WL.ex rfl rfl rfl (Ex.cvI Tryd.underlying3 Tryd.underlying162 rfl (c := ((18446744073709551616 - n : Nat) : Int)) (by simp [IntKind.wrap, IntKind.bits, IntKind.signed]; omega)) ?_
  refine WL.ex rfl rfl rfl (Ex.band rfl rfl (c := (((32 - n) % 32 : Nat) : Int)) (by rw [show (31 : Int) = ((31 : Nat) : Int) from rfl]; rw [u64_and_nat _ _ (by omega) (by decide)]; congr 1; rw [show (31 : Nat) = 2 ^ 5 - 1 by decide, Nat.and_two_pow_sub_one_eq_mod]; omega)) ?_
  refine WL.ex rfl rfl rfl (Ex.asg rfl) ?_
  refine WL.nil ?_
  refine WX.next (?_)
  refine WC.seq ?_
  refine WC.region ?_
  refine WL.ex rfl rfl rfl (Ex.mv rfl) ?_
  refine WL.ex rfl rfl rfl (Ex.mv rfl) ?_
  refine WL.ex rfl rfl rfl (Ex.shl rfl rfl (m := (32 - n) % 32) rfl (shl32 (by omega) hx)) ?_
  refine WL.ex rfl rfl rfl (Ex.mv rfl) ?_
  refine WL.ex rfl rfl rfl (Ex.mv rfl) ?_
  refine WL.ex rfl rfl rfl (Ex.sub rfl rfl (c := ((32 - (32 - n) % 32 : Nat) : Int)) (by rw [show (32 : Int) - (((32 - n) % 32 : Nat) : Int) = ((32 - (32 - n) % 32 : Nat) : Int) by omega]; exact u64w_lt _ (by omega))) ?_
  refine WL.ex rfl rfl rfl (Ex.shr rfl rfl (m := 32 - (32 - n) % 32) rfl (shr32 _ _ (by omega))) ?_
  refine WL.ex rfl rfl rfl (Ex.bor rfl rfl (c := ((rotr n x : Nat) : Int)) (by
      rcases Nat.lt_or_ge n 32 with h | h
      · rw [show (32 - n) % 32 = 32 - n by omega, show 32 - (32 - n) = n by omega]
        have := rotr_or hn hx
        refine bor32 ?_ (Nat.lt_of_le_of_lt (Nat.div_le_self _ _) hx) this
        exact Nat.lt_of_le_of_lt (Nat.left_le_or (m := x / 2 ^ n)) (by rw [this]; exact rotr_lt hn hx)
      · obtain rfl : n = 32 := by omega
        refine bor32 ?_ (Nat.lt_of_le_of_lt (Nat.div_le_self _ _) hx) ?_
        · simp; exact Nat.mod_lt _ (by decide)
        · simp [rotr, Nat.mod_eq_of_lt hx, Nat.div_eq_of_lt hx])) ?_
  refine WL.ex rfl rfl rfl (Ex.asg rfl) ?_
  refine WL.nil ?_
  refine WX.next (?_)
  refine WC.ret ?_
  refine WX.ret1 rfl rfl ?_
  exact ⟨rfl, M0.keep⟩

/- sponsion/digest.turned -/
theorem turned_ok (w : World) (x a b c : Nat) (hx : x < 4294967296) (ha : 0 < a ∧ a ≤ 32) (hb : 0 < b ∧ b ≤ 32) (hc : 0 < c ∧ c ≤ 32) :
    Gives Tryd.prog 138 #[.int .u32 (x : Int), .int .i64 (a : Int), .int .i64 (b : Int), .int .i64 (c : Int)] w fun u w1 => u = .int .u32 ((three a b c x : Nat) : Int) ∧ Keep nof w w1 := by
  have M0 := Mem.start w nof
  refine Gives.enter (n := 23) Tryd.func138 rfl Tryd.ntmps138 rfl (env := [(0, .int .u32 (x : Int)), (1, .int .i64 (a : Int)), (2, .int .i64 (b : Int)), (3, .int .i64 (c : Int))]) rfl ?_
  refine WC.seq ?_
  refine WC.region ?_
  refine WL.ex rfl rfl rfl (Ex.asg rfl) ?_
  refine WL.nil ?_
  refine WX.next (?_)
  refine WC.seq ?_
  refine WC.region ?_
  refine WL.ex rfl rfl rfl (Ex.mv rfl) ?_
  refine WL.ex rfl rfl rfl (Ex.mv rfl) ?_
  refine WL.ex rfl rfl rfl (Ex.neg rfl (i64w _ (by omega) (by omega))) ?_
  refine WL.ac rfl rfl rfl (Ac.call rfl Tryd.func140 nm140 rfl (rotl_ok w x a _ hx ha.2 ha.1 (by omega))) ?_; rintro v5 w5 ⟨rfl, K5⟩
  have M5 := M0.step K5
  refine WL.ex rfl rfl rfl (Ex.mv rfl) ?_
  refine WL.ex rfl rfl rfl (Ex.mv rfl) ?_
  refine WL.ex rfl rfl rfl (Ex.neg rfl (i64w _ (by omega) (by omega))) ?_
  refine WL.ac rfl rfl rfl (Ac.call rfl Tryd.func140 nm140 rfl (rotl_ok w5 x b _ hx hb.2 hb.1 (by omega))) ?_; rintro v9 w9 ⟨rfl, K9⟩
  have M9 := M5.step K9
  refine WL.ex rfl rfl rfl (Ex.bxor rfl rfl (bxor32 (rotr_lt ha.2 hx) (rotr_lt hb.2 hx) rfl)) ?_
  refine WL.ex rfl rfl rfl (Ex.mv rfl) ?_
  refine WL.ex rfl rfl rfl (Ex.mv rfl) ?_
  refine WL.ex rfl rfl rfl (Ex.neg rfl (i64w _ (by omega) (by omega))) ?_
  refine WL.ac rfl rfl rfl (Ac.call rfl Tryd.func140 nm140 rfl (rotl_ok w9 x c _ hx hc.2 hc.1 (by omega))) ?_; rintro v14 w14 ⟨rfl, K14⟩
  have M14 := M9.step K14
  refine WL.ex rfl rfl rfl (Ex.bxor rfl rfl (bxor32 (xor32 (rotr_lt ha.2 hx) (rotr_lt hb.2 hx)) (rotr_lt hc.2 hx) rfl)) ?_
  refine WL.ex rfl rfl rfl (Ex.asg rfl) ?_
  refine WL.nil ?_
  refine WX.next (?_)
  refine WC.ret ?_
  refine WX.ret1 rfl rfl ?_
  exact ⟨rfl, M14.keep⟩

/- sponsion/digest.words -/
theorem words_ok (w : World) (A : Option Addr) (c : Nat) (p : List UInt8) (hp : p.length = 64) (hc : 64 ≤ c) (hr : Rd w A (bytesV p)) :
    Gives Tryd.prog 137 #[.slice A 64 c] w fun u w1 => u = .agg (u32V (wAt p 64)).toArray ∧ Keep nof w w1 := by
  obtain ⟨b0, o0, rfl, _⟩ := hr.plain (by simp [hp])
  have M0 := Mem.start w nof
  refine Gives.enter (n := 83) Tryd.func137 rfl Tryd.ntmps137 rfl (env := [(0, .slice (some ⟨b0, o0, none⟩) 64 c)]) rfl ?_
  refine WC.seq ?_
  refine WC.region ?_
  refine WL.ac rfl rfl rfl (Ac.alloc M0 (l := u32V (List.replicate 64 0)) (by kernel_rfl)) ?_; rintro v1 w1 ⟨g1, rfl, hg1, K1, M1⟩
  refine WL.nil ?_
  refine WX.next (?_)
  refine WC.jump (σ := Nat × Nat) 0 (fun s => [(0, .slice (some ⟨b0, o0, none⟩) 64 c), (2, .pointer (some ⟨g1, 0, none⟩)), (3, .pointer (some ⟨s.2, 0, none⟩)), (4, .int .i64 (s.1 : Int))]) (fun s wr => s.1 < 64 ∧ Mem w wr nof [blk s.2 (u32V (wAt p s.1)) 165, blk g1 (u32V (List.replicate 64 0)) 165]) (fun s => 64 - s.1) rfl ?_ ?_
  · skip
    rintro ⟨i, gw⟩ w2 ⟨hi, M2⟩
    dsimp only at hi M2
    refine WC.sub (env' := [(0, .slice (some ⟨b0, o0, none⟩) 64 c), (2, .pointer (some ⟨g1, 0, none⟩)), (3, .pointer (some ⟨gw, 0, none⟩)), (4, .int .i64 (i : Int))]) (.cons rfl (.cons rfl (.cons rfl (.cons rfl (.nil))))) ?_
    refine WC.cut (σ := Unit) (fun _ => [(0, .slice (some ⟨b0, o0, none⟩) 64 c), (2, .pointer (some ⟨g1, 0, none⟩)), (3, .pointer (some ⟨gw, 0, none⟩)), (4, .int .i64 (i : Int))]) (fun _ wr => Mem w wr nof [blk gw (u32V (wAt p (i + 1))) 165, blk g1 (u32V (List.replicate 64 0)) 165]) ?_ ?_
    ·
      refine WC.seq ?_
      refine WC.region ?_
      refine WL.ex rfl rfl rfl (Ex.mv rfl) ?_
      refine WL.ex rfl rfl rfl (Ex.lss rfl rfl) ?_
      refine WL.nil ?_
      refine WX.next (?_)
      refine WC.cond_dec rfl (fun hlo => ?_) (fun hlo => ?_)
      · have hlo2 : i < 16 := by omega
        refine WC.seq ?_
        refine WC.region ?_
        refine WL.ex rfl rfl rfl (Ex.mv rfl) ?_
        refine WL.ex rfl rfl rfl (Ex.mv rfl) ?_
        refine WL.ex rfl rfl rfl (Ex.mul rfl rfl (c := ((4 * i : Nat) : Int)) (by rw [i64w _ (by omega) (by omega)]; omega)) ?_
        refine WL.ex rfl rfl rfl (Ex.mv rfl) ?_
        refine WL.ex rfl rfl rfl (Ex.mul rfl rfl (c := ((4 * i : Nat) : Int)) (by rw [i64w _ (by omega) (by omega)]; omega)) ?_
        refine WL.ex rfl rfl rfl (Ex.add rfl rfl (c := ((4 * i + 4 : Nat) : Int)) (by rw [i64w _ (by omega) (by omega)]; omega)) ?_
        refine WL.ex rfl rfl rfl (Ex.sllhN Tryd.underlying112 sz5 rfl rfl rfl (by omega) (by omega) (by omega)) ?_
        rw [show 4 * i + 4 - 4 * i = 4 by omega]
        obtain ⟨q, hq⟩ : ∃ q, q = (p.drop (4 * i)).take 4 := ⟨_, rfl⟩
        have hql : q.length = 4 := by rw [hq]; simp; omega
        have hqr : Rd w (some ⟨b0, o0 + 4 * i * 1, none⟩) (bytesV q) := by
          have h1 := (hr.drop (4 * i)).take 4
          simp only [Option.map_some, add0] at h1
          rw [hq, Nat.mul_one]
          simpa [bytesV] using h1
        refine WL.ex rfl rfl rfl (Ex.len Tryd.underlying112 rfl) ?_
        refine WL.ex rfl rfl rfl (Ex.mv rfl) ?_
        refine WL.nil ?_
        refine WX.next (?_)
        refine WC.block ?_
        refine WC.loop (σ := Nat) (fun j => [(0, .slice (some ⟨b0, o0, none⟩) 64 c), (2, .pointer (some ⟨g1, 0, none⟩)), (3, .pointer (some ⟨gw, 0, none⟩)), (4, .int .i64 (i : Int)), (17, .slice (some ⟨b0, o0 + 4 * i * 1, none⟩) 4 (c - 4 * i)), (18, .int .i64 4), (19, .int .i64 (j : Int))]) (fun j wr => j ≤ 4 ∧ Mem w wr nof [blk gw (u32V ((wAt p i).set i (beVal (q.take j)))) 165, blk g1 (u32V (List.replicate 64 0)) 165]) (fun j => 4 - j) (0) ?_ (.cons rfl (.cons rfl (.cons rfl (.cons rfl (.cons rfl (.cons rfl (.cons rfl (.nil)))))))) ?_
        · refine ⟨by decide, ?_⟩
          have hz : (wAt p i).set i (beVal (q.take 0)) = wAt p i := wAt_self p hi
          rw [hz]
          exact M2
        rintro j w14 ⟨hj, M14⟩
        refine WC.seq ?_
        refine WC.region ?_
        refine WL.ex rfl rfl rfl (Ex.lss rfl rfl) ?_
        refine WL.nil ?_
        refine WX.next (?_)
        refine WC.seq ?_
        refine WC.cond_dec rfl (fun hj4 => ?_) (fun hj4 => ?_)
        · obtain ⟨b, hb⟩ : ∃ b, q[j]? = some b := ⟨_, List.getElem?_eq_getElem (by omega)⟩
          have hb8 := b.toNat_lt
          have hv : beVal (q.take j) < 256 ^ 3 := beVal_lt_of (by simp; omega)
          refine WC.skip ?_
          refine WX.next (?_)
          refine WC.seq ?_
          refine WC.block ?_
          refine WC.seq ?_
          refine WC.region ?_
          refine WL.ex rfl rfl rfl (Ex.ia Tryd.underlying112 sz5 rfl rfl ⟨by omega, by omega⟩) ?_
          refine WL.ex rfl rfl rfl (Ex.load ty5 rfl (Rd.at1 (u := byteV b) (M14.rd hqr) (j := (j : Int).toNat * 1) (by simp [bytesV_get hb]))) ?_
          refine WL.ex rfl rfl rfl (Ex.asg rfl) ?_
          refine WL.nil ?_
          refine WX.next (?_)
          refine WC.region ?_
          refine WL.ex rfl rfl rfl (Ex.mv rfl) ?_
          refine WL.ex rfl rfl rfl (Ex.mv rfl) ?_
          refine WL.ex rfl rfl rfl (Ex.iaA Tryd.underlying165 sz46 rfl rfl ⟨by omega, by omega⟩) ?_
          refine WL.ex rfl rfl rfl (Ex.load ty46 rfl (M14.cell (i := 0) (v := .int .u32 ((beVal (q.take j) : Nat) : Int)) rfl (u32V_self (by rw [(wAt_ok p i).1]; exact hi) (by simp)))) ?_
          refine WL.ex rfl rfl rfl (Ex.shl rfl rfl (m := 8) rfl (c := ((beVal (q.take j) * 2 ^ 8 : Nat) : Int)) (by rw [shl32 (by decide) (by omega), Nat.mod_eq_of_lt (show beVal (q.take j) < 16777216 by omega)])) ?_
          refine WL.ex rfl rfl rfl (Ex.mv rfl) ?_
          refine WL.ex rfl rfl rfl (Ex.cvI Tryd.underlying5 Tryd.underlying46 rfl (u32w_lt _ (by omega))) ?_
          refine WL.ex rfl rfl rfl (Ex.bor rfl rfl (c := ((beVal (q.take (j + 1)) : Nat) : Int)) (bor32 (by omega) (by omega) (by rw [or_add hb8, take_snoc hb, beVal_snoc]))) ?_
          refine WL.ex rfl rfl rfl (Ex.iaA Tryd.underlying165 sz46 rfl rfl ⟨by omega, by omega⟩) ?_
          refine WL.ac0 rfl rfl (Ac.st M14 ty46 rfl rfl rfl (i := 0) rfl (by simp [(wAt_ok p i).1]; omega)) ?_; rintro v28 w28 ⟨K28, M28⟩
          try dsimp only [List.set] at M28
          simp only [Int.toNat_natCast, Nat.mul_one, Nat.zero_add] at M28
          rw [u32V_set, List.set_set] at M28
          refine WL.nil ?_
          refine WX.normal_block (WX.next (?_))
          refine WC.region ?_
          refine WL.ex rfl rfl rfl (Ex.add rfl rfl (i64w _ (by omega) (by omega))) ?_
          refine WL.ex rfl rfl rfl (Ex.mv rfl) ?_
          refine WL.nil ?_
          refine WX.again (j + 1) ?_ ?_ (.cons rfl (.cons rfl (.cons rfl (.cons rfl (.cons rfl (.cons rfl (.cons rfl (.nil))))))))
          · (try dsimp only); omega
          · exact ⟨by omega, M28⟩
        · obtain rfl : j = 4 := by omega
          rw [List.take_of_length_le (by omega), hq, ← wAt_lo p hlo2] at M14
          refine WC.exit ?_
          refine WX.exit_then (WX.exit_then (WX.exit_block (?_)))
          refine WX.join (()) ?_ (.cons rfl (.cons rfl (.cons rfl (.cons rfl (.nil)))))
          exact M14
      · have hlo2 : ¬ i < 16 := by omega
        refine WC.seq ?_
        refine WC.draw (Keep nof w2.drew) [] (.one 0 0 (.one 1 0 (.one 2 0 (.one 4 0 (.one 5 0 (.one 6 0 (.one 3 1 (.one 8 0 (.one 7 1 (.one 9 0 .nil)))))))))) mixed (by kernel_rfl) (by kernel_rfl) (by kernel_rfl) (HQ.then_ (HQ.then_ (HQ.jump HQ.body))) ?_
        obtain ⟨w31, hw31⟩ : ∃ v, v = w2.drew := ⟨_, rfl⟩
        have D31 : Keep nof w2 w31 := by rw [hw31]; exact Keep.drew _ _
        have M31 := M2.step D31
        rw [← hw31]; clear hw31
        refine WP.p rfl rfl rfl rfl (fun _ => Ex.mv rfl) ?_
        refine WP.p rfl rfl rfl rfl (fun _ => Ex.sub rfl rfl (c := ((i - 15 : Nat) : Int)) (by rw [i64w _ (by omega) (by omega)]; omega)) ?_
        refine WP.p rfl rfl rfl rfl (fun _ => Ex.iaA Tryd.underlying165 sz46 rfl rfl ⟨by omega, by omega⟩) ?_
        refine WP.p rfl rfl rfl rfl (fun _ => Ex.mv rfl) ?_
        refine WP.p rfl rfl rfl rfl (fun _ => Ex.sub rfl rfl (c := ((i - 2 : Nat) : Int)) (by rw [i64w _ (by omega) (by omega)]; omega)) ?_
        refine WP.p rfl rfl rfl rfl (fun _ => Ex.iaA Tryd.underlying165 sz46 rfl rfl ⟨by omega, by omega⟩) ?_
        refine WP.q (Keep.refl _ _) rfl rfl rfl rfl (fun w' hS => Ex.load ty46 rfl (hS.cell (M31.cell (i := 0) rfl (u32V_at (i := i - 15) (by rw [(wAt_ok p i).1]; omega) (by simp))) (fun f => f))) ?_
        refine WP.p rfl rfl rfl rfl (fun _ => Ex.asg rfl) ?_
        refine WP.q (Keep.refl _ _) rfl rfl rfl rfl (fun w' hS => Ex.load ty46 rfl (hS.cell (M31.cell (i := 0) rfl (u32V_at (i := i - 2) (by rw [(wAt_ok p i).1]; omega) (by simp))) (fun f => f))) ?_
        refine WP.p rfl rfl rfl rfl (fun _ => Ex.asg rfl) ?_
        refine WP.nil ?_
        refine WX.next (?_)
        refine WC.seq ?_
        refine WC.draw (Keep nof w31.drew) [11] (.one 0 0 (.one 1 0 (.one 2 0 (.one 3 0 (.one 5 0 (.one 6 0 (.one 7 0 (.one 4 1 (.one 8 1 (.one 9 0 (.one 10 0 (.one 11 2 .nil)))))))))))) mixed (by kernel_rfl) (by kernel_rfl) (by kernel_rfl) (HQ.then_ (HQ.then_ (HQ.jump HQ.body))) ?_
        obtain ⟨w42, hw42⟩ : ∃ v, v = w31.drew := ⟨_, rfl⟩
        have D42 : Keep nof w31 w42 := by rw [hw42]; exact Keep.drew _ _
        have M42 := M31.step D42
        rw [← hw42]; clear hw42
        refine WP.p rfl rfl rfl rfl (fun _ => Ex.mv rfl) ?_
        refine WP.p rfl rfl rfl rfl (fun _ => Ex.mv rfl) ?_
        refine WP.p rfl rfl rfl rfl (fun _ => Ex.sub rfl rfl (c := ((i - 16 : Nat) : Int)) (by rw [i64w _ (by omega) (by omega)]; omega)) ?_
        refine WP.p rfl rfl rfl rfl (fun _ => Ex.iaA Tryd.underlying165 sz46 rfl rfl ⟨by omega, by omega⟩) ?_
        refine WP.p rfl rfl rfl rfl (fun _ => Ex.mv rfl) ?_
        refine WP.p rfl rfl rfl rfl (fun _ => Ex.sub rfl rfl (c := ((i - 7 : Nat) : Int)) (by rw [i64w _ (by omega) (by omega)]; omega)) ?_
        refine WP.p rfl rfl rfl rfl (fun _ => Ex.iaA Tryd.underlying165 sz46 rfl rfl ⟨by omega, by omega⟩) ?_
        refine WP.q (Keep.refl _ _) rfl rfl rfl rfl (fun w' hS => Ex.load ty46 rfl (hS.cell (M42.cell (i := 0) rfl (u32V_at (i := i - 16) (by rw [(wAt_ok p i).1]; omega) (by simp))) (fun f => f))) ?_
        refine WP.q (Keep.refl _ _) rfl rfl rfl rfl (fun w' hS => Ex.load ty46 rfl (hS.cell (M42.cell (i := 0) rfl (u32V_at (i := i - 7) (by rw [(wAt_ok p i).1]; omega) (by simp))) (fun f => f))) ?_
        refine WP.p rfl rfl rfl rfl (fun _ => Ex.add rfl rfl (add32N _ _)) ?_
        refine WP.p rfl rfl rfl rfl (fun _ => Ex.iaA Tryd.underlying165 sz46 rfl rfl ⟨by omega, by omega⟩) ?_
        refine WP.a0 rfl rfl rfl (Ac.st M42 ty46 rfl rfl rfl (i := 0) rfl (by simp [(wAt_ok p i).1]; omega)) ?_; rintro v54 w54 ⟨K54, M54⟩; refine .inl ⟨rfl, Keep nof w54, ?_⟩
        try dsimp only [List.set] at M54
        simp only [Int.toNat_natCast, Nat.mul_one, Nat.zero_add] at M54
        rw [u32V_set] at M54
        refine WP.nil ?_
        refine WX.next (?_)
        refine WC.seq ?_
        refine WC.draw (Keep nof w54.drew) [13] (.one 0 0 (.one 1 0 (.one 3 0 (.one 5 0 (.one 8 0 (.one 9 0 (.one 2 1 (.one 4 2 (.one 6 2 (.one 7 0 (.one 10 0 (.one 11 0 (.one 12 0 (.one 13 2 .nil)))))))))))))) mixed (by kernel_rfl) (by kernel_rfl) (by kernel_rfl) (HQ.then_ (HQ.then_ (HQ.jump HQ.body))) ?_
        obtain ⟨w55, hw55⟩ : ∃ v, v = w54.drew := ⟨_, rfl⟩
        have D55 : Keep nof w54 w55 := by rw [hw55]; exact Keep.drew _ _
        have M55 := M54.step D55
        rw [← hw55]; clear hw55
        refine WP.p rfl rfl rfl rfl (fun _ => Ex.mv rfl) ?_
        refine WP.p rfl rfl rfl rfl (fun _ => Ex.iaA Tryd.underlying165 sz46 rfl rfl ⟨by omega, by omega⟩) ?_
        refine WP.p rfl rfl rfl rfl (fun _ => Ex.mv rfl) ?_
        refine WP.p rfl rfl rfl rfl (fun _ => Ex.mv rfl) ?_
        refine WP.p rfl rfl rfl rfl (fun _ => Ex.mv rfl) ?_
        refine WP.p rfl rfl rfl rfl (fun _ => Ex.shr rfl rfl (m := 3) rfl (shr32 _ _ (by decide))) ?_
        refine WP.q (Keep.refl _ _) rfl rfl rfl rfl (fun w' hS => Ex.load ty46 rfl (hS.cell (M55.cell (i := 0) rfl (u32V_self (by rw [(wAt_ok p i).1]; exact hi) (by simp))) (fun f => f))) ?_
        refine WP.as rfl rfl rfl rfl (Ac.call rfl Tryd.func140 nm140 rfl (rotl_ok w55 _ 7 _ (u32s_get (wAt_ok p i)) (by decide) (by decide) (by decide))) ?_; rintro v63 w63 ⟨rfl, K63⟩
        refine ⟨Keep nof w63, fun u h => K63.trans h, Keep.refl _ _, ?_⟩
        have M63 := M55.step K63
        refine WP.as rfl rfl rfl rfl (Ac.call rfl Tryd.func140 nm140 rfl (rotl_ok w63 _ 18 _ (u32s_get (wAt_ok p i)) (by decide) (by decide) (by decide))) ?_; rintro v64 w64 ⟨rfl, K64⟩
        refine ⟨Keep nof w64, fun u h => K64.trans h, Keep.refl _ _, ?_⟩
        have M64 := M63.step K64
        refine WP.p rfl rfl rfl rfl (fun _ => Ex.bxor rfl rfl (bxor32 (rotr_lt (n := 7) (by decide) (u32s_get (wAt_ok p i))) (rotr_lt (n := 18) (by decide) (u32s_get (wAt_ok p i))) rfl)) ?_
        refine WP.p rfl rfl rfl rfl (fun _ => Ex.bxor rfl rfl (bxor32 (xor32 (rotr_lt (n := 7) (by decide) (u32s_get (wAt_ok p i))) (rotr_lt (n := 18) (by decide) (u32s_get (wAt_ok p i)))) (Nat.lt_of_le_of_lt (Nat.div_le_self _ _) (u32s_get (wAt_ok p i))) rfl)) ?_
        refine WP.p rfl rfl rfl rfl (fun _ => Ex.add rfl rfl (add32N _ _)) ?_
        refine WP.p rfl rfl rfl rfl (fun _ => Ex.iaA Tryd.underlying165 sz46 rfl rfl ⟨by omega, by omega⟩) ?_
        refine WP.a0 rfl rfl rfl (Ac.st M64 ty46 rfl rfl rfl (i := 0) rfl (by simp [(wAt_ok p i).1]; omega)) ?_; rintro v69 w69 ⟨K69, M69⟩; refine .inl ⟨rfl, Keep nof w69, ?_⟩
        try dsimp only [List.set] at M69
        simp only [Int.toNat_natCast, Nat.mul_one, Nat.zero_add] at M69
        rw [u32V_set, List.set_set] at M69
        refine WP.nil ?_
        refine WX.next (?_)
        refine WC.draw (Keep nof w69.drew) [13] (.one 0 0 (.one 1 0 (.one 3 0 (.one 5 0 (.one 8 0 (.one 9 0 (.one 2 1 (.one 4 2 (.one 6 2 (.one 7 0 (.one 10 0 (.one 11 0 (.one 12 0 (.one 13 2 .nil)))))))))))))) mixed (by kernel_rfl) (by kernel_rfl) (by kernel_rfl) (HQ.then_ (HQ.jump HQ.body)) ?_
        obtain ⟨w70, hw70⟩ : ∃ v, v = w69.drew := ⟨_, rfl⟩
        have D70 : Keep nof w69 w70 := by rw [hw70]; exact Keep.drew _ _
        have M70 := M69.step D70
        rw [← hw70]; clear hw70
        refine WP.p rfl rfl rfl rfl (fun _ => Ex.mv rfl) ?_
        refine WP.p rfl rfl rfl rfl (fun _ => Ex.iaA Tryd.underlying165 sz46 rfl rfl ⟨by omega, by omega⟩) ?_
        refine WP.p rfl rfl rfl rfl (fun _ => Ex.mv rfl) ?_
        refine WP.p rfl rfl rfl rfl (fun _ => Ex.mv rfl) ?_
        refine WP.p rfl rfl rfl rfl (fun _ => Ex.mv rfl) ?_
        refine WP.p rfl rfl rfl rfl (fun _ => Ex.shr rfl rfl (m := 10) rfl (shr32 _ _ (by decide))) ?_
        refine WP.q (Keep.refl _ _) rfl rfl rfl rfl (fun w' hS => Ex.load ty46 rfl (hS.cell (M70.cell (i := 0) rfl (u32V_self (by rw [(wAt_ok p i).1]; exact hi) (by simp))) (fun f => f))) ?_
        refine WP.as rfl rfl rfl rfl (Ac.call rfl Tryd.func140 nm140 rfl (rotl_ok w70 _ 17 _ (u32s_get (wAt_ok p i)) (by decide) (by decide) (by decide))) ?_; rintro v78 w78 ⟨rfl, K78⟩
        refine ⟨Keep nof w78, fun u h => K78.trans h, Keep.refl _ _, ?_⟩
        have M78 := M70.step K78
        refine WP.as rfl rfl rfl rfl (Ac.call rfl Tryd.func140 nm140 rfl (rotl_ok w78 _ 19 _ (u32s_get (wAt_ok p i)) (by decide) (by decide) (by decide))) ?_; rintro v79 w79 ⟨rfl, K79⟩
        refine ⟨Keep nof w79, fun u h => K79.trans h, Keep.refl _ _, ?_⟩
        have M79 := M78.step K79
        refine WP.p rfl rfl rfl rfl (fun _ => Ex.bxor rfl rfl (bxor32 (rotr_lt (n := 17) (by decide) (u32s_get (wAt_ok p i))) (rotr_lt (n := 19) (by decide) (u32s_get (wAt_ok p i))) rfl)) ?_
        refine WP.p rfl rfl rfl rfl (fun _ => Ex.bxor rfl rfl (bxor32 (xor32 (rotr_lt (n := 17) (by decide) (u32s_get (wAt_ok p i))) (rotr_lt (n := 19) (by decide) (u32s_get (wAt_ok p i)))) (Nat.lt_of_le_of_lt (Nat.div_le_self _ _) (u32s_get (wAt_ok p i))) rfl)) ?_
        refine WP.p rfl rfl rfl rfl (fun _ => Ex.add rfl rfl (add32N _ _)) ?_
        refine WP.p rfl rfl rfl rfl (fun _ => Ex.iaA Tryd.underlying165 sz46 rfl rfl ⟨by omega, by omega⟩) ?_
        refine WP.a0 rfl rfl rfl (Ac.st M79 ty46 rfl rfl rfl (i := 0) rfl (by simp [(wAt_ok p i).1]; omega)) ?_; rintro v84 w84 ⟨K84, M84⟩; refine .inl ⟨rfl, Keep nof w84, ?_⟩
        try dsimp only [List.set] at M84
        simp only [Int.toNat_natCast, Nat.mul_one, Nat.zero_add] at M84
        rw [u32V_set, List.set_set] at M84
        rw [wAt_hi p hlo2 (by simp only [sg0, sg1]; omega)] at M84
        refine WP.nil ?_
        refine WX.join (()) ?_ (.cons rfl (.cons rfl (.cons rfl (.cons rfl (.nil)))))
        exact M84
    · rintro _ w85 M85
      refine WC.seq ?_
      refine WC.region ?_
      refine WL.ex rfl rfl rfl (Ex.mv rfl) ?_
      refine WL.ex rfl rfl rfl (Ex.add rfl rfl (i64w _ (by omega) (by omega))) ?_
      refine WL.ex rfl rfl rfl (Ex.asg rfl) ?_
      refine WL.nil ?_
      refine WX.next (?_)
      refine WC.seq ?_
      refine WC.seq ?_
      refine WC.region ?_
      refine WL.ex rfl rfl rfl (Ex.mv rfl) ?_
      refine WL.ex rfl rfl rfl (Ex.lss rfl rfl) ?_
      refine WL.nil ?_
      refine WX.next (?_)
      refine WC.cond_dec rfl (fun h81 => ?_) (fun h81 => ?_)
      · skip
        refine WC.goto ?_
        refine WX.goto_then (?_)
        refine WX.goto_again (((i + 1, gw) : Nat × Nat)) ?_ ?_ (.cons rfl (.cons rfl (.cons rfl (.cons rfl (.nil)))))
        · (try dsimp only); omega
        · exact ⟨by omega, M85⟩
      · obtain rfl : i = 63 := by omega
        refine WC.skip ?_
        refine WX.next (?_)
        refine WC.seq ?_
        refine WC.region ?_
        refine WL.ex rfl rfl rfl (Ex.loadA ty165 rfl (u32s_len (wAt_ok p 64)) (M85.rdw (i := 0) rfl)) ?_
        refine WL.ac0 rfl rfl (Ac.stA M85 ty165 rfl rfl rfl (u32s_len (wAt_ok p 64)) (u32V_one _) (i := 1) rfl (by rw [u32s_len (wAt_ok p 64), u32s_len (u32s_0 64)]; decide)) ?_; rintro v92 w92 ⟨K92, M92⟩
        try dsimp only [List.set] at M92
        rw [splice_all _ _ (by rw [u32s_len (wAt_ok p 64), u32s_len (u32s_0 64)])] at M92
        refine WL.nil ?_
        refine WX.next (?_)
        refine WC.ret ?_
        refine WX.ret_jump (?_)
        refine WX.retc rfl rfl (run_loadVarA ty165 (by exact u32s_len (wAt_ok p 64)) (M92.rdw (i := 1) rfl)) ?_
        exact ⟨rfl, M92.keep⟩
  · intro hbody
    refine WC.seq ?_
    refine WC.region ?_
    refine WL.ac rfl rfl rfl (Ac.alloc M1 (l := u32V (List.replicate 64 0)) (by kernel_rfl)) ?_; rintro v93 w93 ⟨g2, rfl, hg93, K93, M93⟩
    refine WL.nil ?_
    refine WX.next (?_)
    refine WC.seq ?_
    refine WC.region ?_
    refine WL.ex rfl rfl rfl (Ex.asg rfl) ?_
    refine WL.nil ?_
    refine WX.next (?_)
    refine WC.at_label (WC.sub (.cons rfl (.cons rfl (.cons rfl (.cons rfl (.nil))))) (hbody (((0, g2) : Nat × Nat)) _ ?_))
    exact ⟨by dsimp only; omega, M93⟩

/- (*sponsion/digest.State).take -/
theorem stake_ok (w : World) (g : Nat) (ws : List Nat) (tl : List Value) (A : Option Addr) (c : Nat) (p : List UInt8) (h : (blk g (u32V ws ++ tl) 189).sat w) (hws : U32s 8 ws) (hp : p.length = 64) (hc : 64 ≤ c) (hr : Rd w A (bytesV p)) (hA : ∀ a, A = some a → a.block ≠ g) (hT : Tabs w) (hg : g ≠ 1 ∧ g ≠ 2) :
    Gives Tryd.prog 130 #[.pointer (some ⟨g, 0, none⟩), .slice A 64 c] w fun u w1 => Turn w w1 (blk g (u32V ws ++ tl) 189) (blk g (u32V (comp ws p) ++ tl) 189) := by
  have M0 := Mem.begin h
  obtain ⟨W, hW⟩ : ∃ W, W = wAt p 64 := ⟨_, rfl⟩
  have hW64 : U32s 64 W := by rw [hW]; exact wAt_ok p 64
  have hTab : ∀ {w1 : World}, Keep (· ∈ (blk g (u32V ws ++ tl) 189).fp) w w1 → ∀ {i : Nat}, i < 64 → w1.cell? ⟨2, 0 + ((i : Nat) : Int).toNat * 1, none⟩ = some (.int .u32 ((kTab.getD i 0 : Nat) : Int)) := fun k i hi => k.cell (hT.at_k hi) (by simp only [blk, List.mem_cons, List.not_mem_nil, or_false]; exact fun e => hg.2 e.symm)
  refine Gives.enter (n := 108) Tryd.func130 rfl Tryd.ntmps130 rfl (env := [(0, .pointer (some ⟨g, 0, none⟩)), (1, .slice A 64 c)]) rfl ?_
  refine WC.seq ?_
  refine WC.region ?_
  refine WL.ex rfl rfl rfl (Ex.mv rfl) ?_
  refine WL.ex rfl rfl rfl (Ex.nilc rfl) ?_
  refine WL.ex rfl rfl rfl (Ex.fa fl189_0 rfl) ?_
  refine WL.ex rfl rfl rfl (Ex.loadA ty164 rfl (u32s_len hws) (M0.rdt (i := 0) rfl (u32V_pre hws.1))) ?_
  refine WL.ac rfl rfl rfl (Ac.alloc M0 (l := u32V (List.replicate 8 0)) (by kernel_rfl)) ?_; rintro v5 w5 ⟨gl, rfl, hg5, K5, M5⟩
  refine WL.ac0 rfl rfl (Ac.stA M5 ty164 rfl rfl rfl (u32s_len hws) (u32V_one _) (i := 0) rfl (by simp [hws.1])) ?_; rintro v6 w6 ⟨K6, M6⟩
  try dsimp only [List.set] at M6
  rw [splice_all _ _ (by simp [hws.1])] at M6
  refine WL.nil ?_
  refine WX.next (?_)
  refine WC.seq ?_
  refine WC.seq ?_
  refine WC.region ?_
  refine WL.ex rfl rfl rfl (Ex.mv rfl) ?_
  refine WL.ac rfl rfl rfl (Ac.call rfl Tryd.func137 nm137 rfl (words_ok w6 A c p hp hc (hr.keep M6.keep (fun a ha hm => by simp only [blk, List.mem_cons, List.not_mem_nil, or_false] at hm; exact hA a ha hm)))) ?_; rintro v8 w8 ⟨rfl, K8⟩
  rw [← hW]
  have M8 := M6.step K8
  refine WL.ex rfl rfl rfl (Ex.mv rfl) ?_
  refine WL.nil ?_
  refine WX.next (?_)
  refine WC.block ?_
  refine WC.loop (σ := Nat) (fun i => [(0, .pointer (some ⟨g, 0, none⟩)), (4, .pointer (some ⟨gl, 0, none⟩)), (17, .agg (u32V W).toArray), (18, .int .i64 (i : Int))]) (fun i wr => i ≤ 64 ∧ U32s 8 (rAt ws W i) ∧ Mem w wr (· ∈ (blk g (u32V ws ++ tl) 189).fp) [blk gl (u32V (rAt ws W i)) 164, blk g (u32V ws ++ tl) 189]) (fun i => 64 - i) (0) ?_ (.cons rfl (.cons rfl (.cons rfl (.cons rfl (.nil))))) ?_
  · exact ⟨by decide, hws, M8⟩
  rintro i w10 ⟨hi, hR, M10⟩
  refine WC.seq ?_
  refine WC.region ?_
  refine WL.ex rfl rfl rfl (Ex.lss rfl rfl) ?_
  refine WL.nil ?_
  refine WX.next (?_)
  refine WC.seq ?_
  refine WC.cond_dec rfl (fun hi64 => ?_) (fun hi64 => ?_)
  · have hi64b : i < 64 := by omega
    obtain ⟨a, ha⟩ : ∃ a, a = rAt ws W i := ⟨_, rfl⟩
    have hrs : rAt ws W (i + 1) = rnd a (kTab.getD i 0) (W.getD i 0) := by rw [rAt, ha]
    rw [← ha] at hR M10
    refine WC.skip ?_
    refine WX.next (?_)
    refine WC.seq ?_
    refine WC.block ?_
    refine WC.seq ?_
    refine WC.region ?_
    refine WL.ex rfl rfl rfl (Ex.mv rfl) ?_
    refine WL.ex rfl rfl rfl (Ex.ixA Tryd.underlying165 ty46 rfl rfl ⟨by omega, by omega⟩ (u32V_at (i := i) (by rw [hW64.1]; omega) (by simp))) ?_
    refine WL.ex rfl rfl rfl (Ex.asg rfl) ?_
    refine WL.ex rfl rfl rfl (Ex.asg rfl) ?_
    refine WL.nil ?_
    refine WX.next (?_)
    refine WC.seq ?_
    refine WC.region ?_
    refine WL.ex rfl rfl rfl (Ex.iaA Tryd.underlying164 sz46 rfl rfl ⟨by omega, by omega⟩) ?_
    refine WL.ex rfl rfl rfl (Ex.load ty46 rfl (M10.cell (i := 0) rfl (u32V_at (i := 4) (by rw [((by first | assumption | exact (u32s_0 8)) : U32s 8 _).1]; decide) rfl))) ?_
    refine WL.ex rfl rfl rfl (Ex.iaA Tryd.underlying164 sz46 rfl rfl ⟨by omega, by omega⟩) ?_
    refine WL.ex rfl rfl rfl (Ex.load ty46 rfl (M10.cell (i := 0) rfl (u32V_at (i := 5) (by rw [((by first | assumption | exact (u32s_0 8)) : U32s 8 _).1]; decide) rfl))) ?_
    refine WL.ex rfl rfl rfl (Ex.band rfl rfl (band32 (by first | exact u32s_get (by assumption) | assumption | exact and32 (by first | exact u32s_get (by assumption) | omega) | omega | exact xor32 (and32 (by first | exact u32s_get (by assumption) | omega)) (and32 (by first | exact u32s_get (by assumption) | omega))) (by first | exact u32s_get (by assumption) | assumption | exact and32 (by first | exact u32s_get (by assumption) | omega) | omega | exact xor32 (and32 (by first | exact u32s_get (by assumption) | omega)) (and32 (by first | exact u32s_get (by assumption) | omega))) rfl)) ?_
    refine WL.ex rfl rfl rfl (Ex.iaA Tryd.underlying164 sz46 rfl rfl ⟨by omega, by omega⟩) ?_
    refine WL.ex rfl rfl rfl (Ex.load ty46 rfl (M10.cell (i := 0) rfl (u32V_at (i := 4) (by rw [((by first | assumption | exact (u32s_0 8)) : U32s 8 _).1]; decide) rfl))) ?_
    refine WL.ex rfl rfl rfl (Ex.com rfl rfl (com32 (u32s_get hR))) ?_
    refine WL.ex rfl rfl rfl (Ex.iaA Tryd.underlying164 sz46 rfl rfl ⟨by omega, by omega⟩) ?_
    refine WL.ex rfl rfl rfl (Ex.load ty46 rfl (M10.cell (i := 0) rfl (u32V_at (i := 6) (by rw [((by first | assumption | exact (u32s_0 8)) : U32s 8 _).1]; decide) rfl))) ?_
    refine WL.ex rfl rfl rfl (Ex.band rfl rfl (band32 (by first | exact u32s_get (by assumption) | assumption | exact and32 (by first | exact u32s_get (by assumption) | omega) | omega | exact xor32 (and32 (by first | exact u32s_get (by assumption) | omega)) (and32 (by first | exact u32s_get (by assumption) | omega))) (by first | exact u32s_get (by assumption) | assumption | exact and32 (by first | exact u32s_get (by assumption) | omega) | omega | exact xor32 (and32 (by first | exact u32s_get (by assumption) | omega)) (and32 (by first | exact u32s_get (by assumption) | omega))) rfl)) ?_
    refine WL.ex rfl rfl rfl (Ex.bxor rfl rfl (c := ((cho (a.getD 4 0) (a.getD 5 0) (a.getD 6 0) : Nat) : Int)) (bxor32 (and32 (u32s_get hR)) (and32 (by omega)) rfl)) ?_
    refine WL.ex rfl rfl rfl (Ex.asg rfl) ?_
    refine WL.nil ?_
    refine WX.next (?_)
    refine WC.seq ?_
    refine WC.region ?_
    refine WL.ex rfl rfl rfl (Ex.iaA Tryd.underlying164 sz46 rfl rfl ⟨by omega, by omega⟩) ?_
    refine WL.ex rfl rfl rfl (Ex.load ty46 rfl (M10.cell (i := 0) rfl (u32V_at (i := 0) (by rw [((by first | assumption | exact (u32s_0 8)) : U32s 8 _).1]; decide) rfl))) ?_
    refine WL.ex rfl rfl rfl (Ex.iaA Tryd.underlying164 sz46 rfl rfl ⟨by omega, by omega⟩) ?_
    refine WL.ex rfl rfl rfl (Ex.load ty46 rfl (M10.cell (i := 0) rfl (u32V_at (i := 1) (by rw [((by first | assumption | exact (u32s_0 8)) : U32s 8 _).1]; decide) rfl))) ?_
    refine WL.ex rfl rfl rfl (Ex.band rfl rfl (band32 (by first | exact u32s_get (by assumption) | assumption | exact and32 (by first | exact u32s_get (by assumption) | omega) | omega | exact xor32 (and32 (by first | exact u32s_get (by assumption) | omega)) (and32 (by first | exact u32s_get (by assumption) | omega))) (by first | exact u32s_get (by assumption) | assumption | exact and32 (by first | exact u32s_get (by assumption) | omega) | omega | exact xor32 (and32 (by first | exact u32s_get (by assumption) | omega)) (and32 (by first | exact u32s_get (by assumption) | omega))) rfl)) ?_
    refine WL.ex rfl rfl rfl (Ex.iaA Tryd.underlying164 sz46 rfl rfl ⟨by omega, by omega⟩) ?_
    refine WL.ex rfl rfl rfl (Ex.load ty46 rfl (M10.cell (i := 0) rfl (u32V_at (i := 0) (by rw [((by first | assumption | exact (u32s_0 8)) : U32s 8 _).1]; decide) rfl))) ?_
    refine WL.ex rfl rfl rfl (Ex.iaA Tryd.underlying164 sz46 rfl rfl ⟨by omega, by omega⟩) ?_
    refine WL.ex rfl rfl rfl (Ex.load ty46 rfl (M10.cell (i := 0) rfl (u32V_at (i := 2) (by rw [((by first | assumption | exact (u32s_0 8)) : U32s 8 _).1]; decide) rfl))) ?_
    refine WL.ex rfl rfl rfl (Ex.band rfl rfl (band32 (by first | exact u32s_get (by assumption) | assumption | exact and32 (by first | exact u32s_get (by assumption) | omega) | omega | exact xor32 (and32 (by first | exact u32s_get (by assumption) | omega)) (and32 (by first | exact u32s_get (by assumption) | omega))) (by first | exact u32s_get (by assumption) | assumption | exact and32 (by first | exact u32s_get (by assumption) | omega) | omega | exact xor32 (and32 (by first | exact u32s_get (by assumption) | omega)) (and32 (by first | exact u32s_get (by assumption) | omega))) rfl)) ?_
    refine WL.ex rfl rfl rfl (Ex.bxor rfl rfl (bxor32 (and32 (u32s_get hR)) (and32 (u32s_get hR)) rfl)) ?_
    refine WL.ex rfl rfl rfl (Ex.iaA Tryd.underlying164 sz46 rfl rfl ⟨by omega, by omega⟩) ?_
    refine WL.ex rfl rfl rfl (Ex.load ty46 rfl (M10.cell (i := 0) rfl (u32V_at (i := 1) (by rw [((by first | assumption | exact (u32s_0 8)) : U32s 8 _).1]; decide) rfl))) ?_
    refine WL.ex rfl rfl rfl (Ex.iaA Tryd.underlying164 sz46 rfl rfl ⟨by omega, by omega⟩) ?_
    refine WL.ex rfl rfl rfl (Ex.load ty46 rfl (M10.cell (i := 0) rfl (u32V_at (i := 2) (by rw [((by first | assumption | exact (u32s_0 8)) : U32s 8 _).1]; decide) rfl))) ?_
    refine WL.ex rfl rfl rfl (Ex.band rfl rfl (band32 (by first | exact u32s_get (by assumption) | assumption | exact and32 (by first | exact u32s_get (by assumption) | omega) | omega | exact xor32 (and32 (by first | exact u32s_get (by assumption) | omega)) (and32 (by first | exact u32s_get (by assumption) | omega))) (by first | exact u32s_get (by assumption) | assumption | exact and32 (by first | exact u32s_get (by assumption) | omega) | omega | exact xor32 (and32 (by first | exact u32s_get (by assumption) | omega)) (and32 (by first | exact u32s_get (by assumption) | omega))) rfl)) ?_
    refine WL.ex rfl rfl rfl (Ex.bxor rfl rfl (c := ((maj (a.getD 0 0) (a.getD 1 0) (a.getD 2 0) : Nat) : Int)) (bxor32 (xor32 (and32 (u32s_get hR)) (and32 (u32s_get hR))) (and32 (u32s_get hR)) rfl)) ?_
    refine WL.ex rfl rfl rfl (Ex.asg rfl) ?_
    refine WL.nil ?_
    refine WX.next (?_)
    refine WC.seq ?_
    refine WC.draw (Keep nof w10.drew) [] (.one 0 0 (.one 2 0 (.one 6 0 (.one 8 0 (.one 9 0 (.one 12 0 (.one 1 1 (.one 3 1 (.one 10 1 (.one 4 2 (.one 5 0 (.one 7 0 (.one 11 0 (.one 13 0 (.one 14 0 .nil))))))))))))))) mixed (by kernel_rfl) (by kernel_rfl) (by kernel_rfl) (HQ.then_ (HQ.block (HQ.then_ (HQ.then_ (HQ.block (HQ.then_ HQ.body)))))) ?_
    obtain ⟨w47, hw47⟩ : ∃ v, v = w10.drew := ⟨_, rfl⟩
    have D47 : Keep nof w10 w47 := by rw [hw47]; exact Keep.drew _ _
    have M47 := M10.step D47
    rw [← hw47]; clear hw47
    refine WP.p rfl rfl rfl rfl (fun _ => Ex.iaA Tryd.underlying164 sz46 rfl rfl ⟨by omega, by omega⟩) ?_
    refine WP.p rfl rfl rfl rfl (fun _ => Ex.iaA Tryd.underlying164 sz46 rfl rfl ⟨by omega, by omega⟩) ?_
    refine WP.p rfl rfl rfl rfl (fun _ => Ex.mv rfl) ?_
    refine WP.p rfl rfl rfl rfl (fun _ => Ex.mv rfl) ?_
    refine WP.p rfl rfl rfl rfl (fun _ => Ex.iaA Tryd.underlying165 sz46 rfl rfl ⟨by omega, by omega⟩) ?_
    refine WP.p rfl rfl rfl rfl (fun _ => Ex.mv rfl) ?_
    refine WP.q (Keep.refl _ _) rfl rfl rfl rfl (fun w' hS => Ex.load ty46 rfl (hS.cell (M47.cell (i := 0) rfl (u32V_at (i := 7) (by rw [((by first | assumption | exact (u32s_0 8)) : U32s 8 _).1]; decide) rfl)) (fun f => f))) ?_
    refine WP.q (Keep.refl _ _) rfl rfl rfl rfl (fun w' hS => Ex.load ty46 rfl (hS.cell (M47.cell (i := 0) rfl (u32V_at (i := 4) (by rw [((by first | assumption | exact (u32s_0 8)) : U32s 8 _).1]; decide) rfl)) (fun f => f))) ?_
    refine WP.q (Keep.refl _ _) rfl rfl rfl rfl (fun w' hS => Ex.load ty46 rfl (hTab (M47.keep.trans hS.any) hi64b)) ?_
    refine WP.as rfl rfl rfl rfl (Ac.call rfl Tryd.func138 nm138 rfl (turned_ok w47 _ 6 11 25 (u32s_get hR) (by decide) (by decide) (by decide))) ?_; rintro v57 w57 ⟨rfl, K57⟩
    refine ⟨Keep nof w57, fun u h => K57.trans h, Keep.refl _ _, ?_⟩
    have M57 := M47.step K57
    refine WP.p rfl rfl rfl rfl (fun _ => Ex.add rfl rfl (add32N _ _)) ?_
    refine WP.p rfl rfl rfl rfl (fun _ => Ex.add rfl rfl (add32N _ _)) ?_
    refine WP.p rfl rfl rfl rfl (fun _ => Ex.add rfl rfl (add32N _ _)) ?_
    refine WP.p rfl rfl rfl rfl (fun _ => Ex.add rfl rfl (add32N _ _)) ?_
    refine WP.p rfl rfl rfl rfl (fun _ => Ex.asg rfl) ?_
    refine WP.nil ?_
    refine WX.next (?_)
    refine WC.seq ?_
    refine WC.region ?_
    refine WL.ex rfl rfl rfl (Ex.iaA Tryd.underlying164 sz46 rfl rfl ⟨by omega, by omega⟩) ?_
    refine WL.ex rfl rfl rfl (Ex.load ty46 rfl (M57.cell (i := 0) rfl (u32V_at (i := 0) (by rw [((by first | assumption | exact (u32s_0 8)) : U32s 8 _).1]; decide) rfl))) ?_
    refine WL.ac rfl rfl rfl (Ac.call rfl Tryd.func138 nm138 rfl (turned_ok w57 _ 2 13 22 (u32s_get hR) (by decide) (by decide) (by decide))) ?_; rintro v65 w65 ⟨rfl, K65⟩
    have M65 := M57.step K65
    refine WL.ex rfl rfl rfl (Ex.mv rfl) ?_
    refine WL.ex rfl rfl rfl (Ex.add rfl rfl (add32N _ _)) ?_
    refine WL.ex rfl rfl rfl (Ex.asg rfl) ?_
    refine WL.nil ?_
    refine WX.next (?_)
    refine WC.region ?_
    refine WL.ex rfl rfl rfl (Ex.mv rfl) ?_
    refine WL.ex rfl rfl rfl (Ex.mv rfl) ?_
    refine WL.ex rfl rfl rfl (Ex.add rfl rfl (add32N _ _)) ?_
    refine WL.ex rfl rfl rfl (Ex.iaA Tryd.underlying164 sz46 rfl rfl ⟨by omega, by omega⟩) ?_
    refine WL.ex rfl rfl rfl (Ex.load ty46 rfl (M65.cell (i := 0) rfl (u32V_at (i := 0) (by rw [((by first | assumption | exact (u32s_0 8)) : U32s 8 _).1]; decide) rfl))) ?_
    refine WL.ex rfl rfl rfl (Ex.iaA Tryd.underlying164 sz46 rfl rfl ⟨by omega, by omega⟩) ?_
    refine WL.ex rfl rfl rfl (Ex.load ty46 rfl (M65.cell (i := 0) rfl (u32V_at (i := 1) (by rw [((by first | assumption | exact (u32s_0 8)) : U32s 8 _).1]; decide) rfl))) ?_
    refine WL.ex rfl rfl rfl (Ex.iaA Tryd.underlying164 sz46 rfl rfl ⟨by omega, by omega⟩) ?_
    refine WL.ex rfl rfl rfl (Ex.load ty46 rfl (M65.cell (i := 0) rfl (u32V_at (i := 2) (by rw [((by first | assumption | exact (u32s_0 8)) : U32s 8 _).1]; decide) rfl))) ?_
    refine WL.ex rfl rfl rfl (Ex.iaA Tryd.underlying164 sz46 rfl rfl ⟨by omega, by omega⟩) ?_
    refine WL.ex rfl rfl rfl (Ex.load ty46 rfl (M65.cell (i := 0) rfl (u32V_at (i := 3) (by rw [((by first | assumption | exact (u32s_0 8)) : U32s 8 _).1]; decide) rfl))) ?_
    refine WL.ex rfl rfl rfl (Ex.mv rfl) ?_
    refine WL.ex rfl rfl rfl (Ex.add rfl rfl (add32N _ _)) ?_
    refine WL.ex rfl rfl rfl (Ex.iaA Tryd.underlying164 sz46 rfl rfl ⟨by omega, by omega⟩) ?_
    refine WL.ex rfl rfl rfl (Ex.load ty46 rfl (M65.cell (i := 0) rfl (u32V_at (i := 4) (by rw [((by first | assumption | exact (u32s_0 8)) : U32s 8 _).1]; decide) rfl))) ?_
    refine WL.ex rfl rfl rfl (Ex.iaA Tryd.underlying164 sz46 rfl rfl ⟨by omega, by omega⟩) ?_
    refine WL.ex rfl rfl rfl (Ex.load ty46 rfl (M65.cell (i := 0) rfl (u32V_at (i := 5) (by rw [((by first | assumption | exact (u32s_0 8)) : U32s 8 _).1]; decide) rfl))) ?_
    refine WL.ex rfl rfl rfl (Ex.iaA Tryd.underlying164 sz46 rfl rfl ⟨by omega, by omega⟩) ?_
    refine WL.ex rfl rfl rfl (Ex.load ty46 rfl (M65.cell (i := 0) rfl (u32V_at (i := 6) (by rw [((by first | assumption | exact (u32s_0 8)) : U32s 8 _).1]; decide) rfl))) ?_
    refine WL.ex rfl rfl rfl (Ex.bldS bd164 (parts := [(0, .tmp 72), (1, .tmp 74), (2, .tmp 76), (3, .tmp 78), (4, .tmp 82), (5, .tmp 84), (6, .tmp 86), (7, .tmp 88)]) _ rfl rfl rfl bld8) ?_
    refine WL.ac0 rfl rfl (Ac.stA M65 ty164 rfl rfl rfl rfl (u32V_one _) (i := 0) rfl (by simp [hR.1, u32V])) ?_; rintro v89 w89 ⟨K89, M89⟩
    try dsimp only [List.set] at M89
    rw [splice_all _ _ (by simp [hR.1, u32V])] at M89
    replace M89 := M89.eqv (i := 0) rfl (r' := blk gl (u32V (rAt ws W (i + 1))) 164) (congrArg (fun x => blk gl (u32V x) 164) (by rw [hrs]; simp only [rnd, List.cons.injEq, and_true, true_and]; constructor <;> omega))
    try dsimp only [List.set] at M89
    refine WL.nil ?_
    refine WX.normal_block (WX.next (?_))
    refine WC.region ?_
    refine WL.ex rfl rfl rfl (Ex.add rfl rfl (i64w _ (by omega) (by omega))) ?_
    refine WL.ex rfl rfl rfl (Ex.mv rfl) ?_
    refine WL.nil ?_
    refine WX.again (i + 1) ?_ ?_ (.cons rfl (.cons rfl (.cons rfl (.cons rfl (.nil)))))
    · (try dsimp only); omega
    · exact ⟨by omega, by rw [hrs]; exact rnd_ok hR _ _, M89⟩
  · obtain rfl : i = 64 := by omega
    refine WC.exit ?_
    refine WX.exit_then (WX.exit_then (WX.exit_block (WX.next (?_))))
    refine WC.seq ?_
    refine WC.region ?_
    refine WL.ex rfl rfl rfl (Ex.mv rfl) ?_
    refine WL.nil ?_
    refine WX.next (?_)
    refine WC.block ?_
    refine WC.loop (σ := Nat) (fun i => [(0, .pointer (some ⟨g, 0, none⟩)), (4, .pointer (some ⟨gl, 0, none⟩)), (91, .int .i64 (i : Int))]) (fun i wr => i ≤ 8 ∧ Mem w wr (· ∈ (blk g (u32V ws ++ tl) 189).fp) [blk gl (u32V (rAt ws W 64)) 164, blk g (u32V (addT ws (rAt ws W 64) i) ++ tl) 189]) (fun i => 8 - i) (0) ?_ (.cons rfl (.cons rfl (.cons rfl (.nil)))) ?_
    · exact ⟨by decide, by rw [addT_0 hws.1]; exact M10⟩
    rintro i w93 ⟨hi, M93⟩
    refine WC.seq ?_
    refine WC.region ?_
    refine WL.ex rfl rfl rfl (Ex.lss rfl rfl) ?_
    refine WL.nil ?_
    refine WX.next (?_)
    refine WC.seq ?_
    refine WC.cond_dec rfl (fun hi8 => ?_) (fun hi8 => ?_)
    · have hi8b : i < 8 := by omega
      have hRl := (rAt_ok hws W 64).1
      have hal : (addT ws (rAt ws W 64) i).length = 8 := by simp [addT]
      refine WC.skip ?_
      refine WX.next (?_)
      refine WC.seq ?_
      refine WC.block ?_
      refine WC.seq ?_
      refine WC.region ?_
      refine WL.ex rfl rfl rfl (Ex.mv rfl) ?_
      refine WL.ex rfl rfl rfl (Ex.asg rfl) ?_
      refine WL.nil ?_
      refine WX.next (?_)
      refine WC.draw (Keep nof w93.drew) [13] (.one 0 0 (.one 1 0 (.one 2 0 (.one 3 0 (.one 4 0 (.one 6 0 (.one 7 0 (.one 10 0 (.one 11 0 (.one 5 1 (.one 8 1 (.one 9 0 (.one 12 0 (.one 13 2 .nil)))))))))))))) mixed (by kernel_rfl) (by kernel_rfl) (by kernel_rfl) (HQ.block (HQ.then_ (HQ.then_ (HQ.block HQ.body)))) ?_
      obtain ⟨w97, hw97⟩ : ∃ v, v = w93.drew := ⟨_, rfl⟩
      have D97 : Keep nof w93 w97 := by rw [hw97]; exact Keep.drew _ _
      have M97 := M93.step D97
      rw [← hw97]; clear hw97
      refine WP.p rfl rfl rfl rfl (fun _ => Ex.mv rfl) ?_
      refine WP.p rfl rfl rfl rfl (fun _ => Ex.mv rfl) ?_
      refine WP.p rfl rfl rfl rfl (fun _ => Ex.nilc rfl) ?_
      refine WP.p rfl rfl rfl rfl (fun _ => Ex.fa fl189_0 rfl) ?_
      refine WP.p rfl rfl rfl rfl (fun _ => Ex.iaA Tryd.underlying164 sz46 rfl rfl ⟨by omega, by omega⟩) ?_
      refine WP.p rfl rfl rfl rfl (fun _ => Ex.mv rfl) ?_
      refine WP.p rfl rfl rfl rfl (fun _ => Ex.iaA Tryd.underlying164 sz46 rfl rfl ⟨by omega, by omega⟩) ?_
      refine WP.p rfl rfl rfl rfl (fun _ => Ex.nilc rfl) ?_
      refine WP.p rfl rfl rfl rfl (fun _ => Ex.fa fl189_0 rfl) ?_
      refine WP.q (Keep.refl _ _) rfl rfl rfl rfl (fun w' hS => Ex.load ty46 rfl (hS.cell (M97.cell (i := 1) rfl (u32V_atL (i := i) (by rw [hal]; omega) (by simp))) (fun f => f))) ?_
      refine WP.q (Keep.refl _ _) rfl rfl rfl rfl (fun w' hS => Ex.load ty46 rfl (hS.cell (M97.cell (i := 0) rfl (u32V_at (i := i) (by rw [hRl]; omega) (by simp))) (fun f => f))) ?_
      refine WP.p rfl rfl rfl rfl (fun _ => Ex.add rfl rfl (add32N _ _)) ?_
      refine WP.p rfl rfl rfl rfl (fun _ => Ex.iaA Tryd.underlying164 sz46 rfl rfl ⟨by omega, by omega⟩) ?_
      refine WP.a0 rfl rfl rfl (Ac.st M97 ty46 rfl rfl rfl (i := 1) rfl (by simp [hal]; omega)) ?_; rintro v111 w111 ⟨K111, M111⟩; refine .inl ⟨rfl, Keep nof w111, ?_⟩
      try dsimp only [List.set] at M111
      simp only [Int.toNat_natCast, Nat.mul_one, Nat.zero_add] at M111
      rw [u32V_setL (by rw [hal]; omega), addT_get hi8b, if_neg (by omega), addT_set hi8b] at M111
      refine WP.nil ?_
      refine WX.normal_block (WX.next (?_))
      refine WC.region ?_
      refine WL.ex rfl rfl rfl (Ex.add rfl rfl (i64w _ (by omega) (by omega))) ?_
      refine WL.ex rfl rfl rfl (Ex.mv rfl) ?_
      refine WL.nil ?_
      refine WX.again (i + 1) ?_ ?_ (.cons rfl (.cons rfl (.cons rfl (.nil))))
      · (try dsimp only); omega
      · exact ⟨by omega, M111⟩
    · obtain rfl : i = 8 := by omega
      have hcomp : addT ws (rAt ws W 64) 8 = comp ws p := by rw [comp, hW]
      rw [hcomp] at M93
      refine WC.exit ?_
      refine WX.exit_then (WX.exit_then (WX.exit_block (?_)))
      refine WX.end0 rfl ?_
      exact (Mem.sub M93 (.cons _ (.refl _))).toTurn

/- sponsion/digest.New -/
theorem dnew_ok (w : World) (hT : Tabs w) :
    Gives Tryd.prog 113 #[] w fun u w1 => ∃ g v, u = .pointer (some ⟨g, 0, none⟩) ∧ New w w1 (stR g v []) := by
  have M0 := (Mem.start w nof).free (r := mrw (.slice none 0 0) 5 (bytesV (stB []))) (mrw_nil _ _) rfl
  refine Gives.enter (n := 4) Tryd.func113 rfl Tryd.ntmps113 rfl (env := []) rfl ?_
  refine WC.seq ?_
  refine WC.region ?_
  refine WL.ex rfl rfl rfl (Ex.asg rfl) ?_
  refine WL.nil ?_
  refine WX.next (?_)
  refine WC.seq ?_
  refine WC.region ?_
  refine WL.ex rfl rfl rfl (Ex.loadA ty164 rfl (l := u32V hBeg) rfl (hT.keep M0.keep).beg) ?_
  refine WL.ex rfl rfl rfl (Ex.bldS bd189 (parts := [(0, .tmp 1)]) [u32V hBeg] (l := stC (stW []) (.slice none 0 0) 0) rfl rfl rfl ⟨0, 8, rfl, rfl, rfl, by simp, rfl⟩) ?_
  refine WL.ac rfl rfl rfl (Ac.box M0 rfl rfl) ?_; rintro v4 w4 ⟨g, rfl, hg4, K4, M4⟩
  replace M4 := M4.closeS
  refine WL.ex rfl rfl rfl (Ex.asg rfl) ?_
  refine WL.nil ?_
  refine WX.next (?_)
  refine WC.ret ?_
  refine WX.ret1 rfl rfl ?_
  exact ⟨g, _, rfl, M4.toNew⟩

/- (*sponsion/digest.State).Add -/
theorem sadd_ok (w : World) (g : Nat) (v0 : Value) (l : List UInt8) (A : Option Addr) (c : Nat) (ps : List SV) (h : (stR g v0 l).sat w) (hr : RdA w (stR g v0 l).fp A ps) (hT : Tabs w) (hg : g ≠ 1 ∧ g ≠ 2) (hb : l.length + (flatP ps).length ≤ 1099511627776) (hps : ps.length ≤ 1099511627776) (hFT : ∀ b ∈ (stR g v0 l).fp, b ≠ 1 ∧ b ≠ 2) :
    Gives Tryd.prog 114 #[.pointer (some ⟨g, 0, none⟩), .slice A ps.length c] w fun u w1 => u = .pointer (some ⟨g, 0, none⟩) ∧ ∃ v1, Turn w w1 (stR g v0 l) (stR g v1 (l ++ flatP ps)) := by
  have M0 := (Mem.begin h).openS
  have hws := (stW_ok l).1
  refine Gives.enter (n := 55) Tryd.func114 rfl Tryd.ntmps114 rfl (env := [(0, .pointer (some ⟨g, 0, none⟩)), (1, .slice A ps.length c)]) rfl ?_
  refine WC.seq ?_
  refine WC.region ?_
  refine WL.ex rfl rfl rfl (Ex.asg rfl) ?_
  refine WL.nil ?_
  refine WX.next (?_)
  refine WC.seq ?_
  refine WC.seq ?_
  refine WC.region ?_
  refine WL.ex rfl rfl rfl (Ex.mv rfl) ?_
  refine WL.ex rfl rfl rfl (Ex.len Tryd.underlying153 rfl) ?_
  refine WL.ex rfl rfl rfl (Ex.mv rfl) ?_
  refine WL.nil ?_
  refine WX.next (?_)
  refine WC.block ?_
  refine WC.loop (σ := Nat × Value) (fun s => [(0, .pointer (some ⟨g, 0, none⟩)), (7, .slice A ps.length c), (8, .int .i64 (ps.length : Int)), (9, .int .i64 (s.1 : Int))]) (fun s wr => s.1 ≤ ps.length ∧ Mem w wr (· ∈ (stR g v0 l).fp) [blk g (stC (stW l) s.2 (l.length + (flatP (ps.take s.1)).length)) 189, mrw s.2 5 (bytesV (stB l ++ flatP (ps.take s.1)))]) (fun s => ps.length - s.1) (((0, v0) : Nat × Value)) ?_ (.cons rfl (.cons rfl (.cons rfl (.cons rfl (.nil))))) ?_
  · refine ⟨by dsimp only; omega, ?_⟩
    simpa [flatP] using M0
  rintro ⟨i, v⟩ w5 ⟨hi, M5⟩
  dsimp only at hi M5
  refine WC.sub (env' := [(0, .pointer (some ⟨g, 0, none⟩)), (7, .slice A ps.length c), (8, .int .i64 (ps.length : Int)), (9, .int .i64 (i : Int))]) (.cons rfl (.cons rfl (.cons rfl (.cons rfl (.nil))))) ?_
  refine WC.seq ?_
  refine WC.region ?_
  refine WL.ex rfl rfl rfl (Ex.lss rfl rfl) ?_
  refine WL.nil ?_
  refine WX.next (?_)
  refine WC.seq ?_
  refine WC.cond_dec rfl (fun hin => ?_) (fun hin => ?_)
  · obtain ⟨p, hpi⟩ : ∃ p, ps[i]? = some p := ⟨_, List.getElem?_eq_getElem (by omega)⟩
    have hpm : p ∈ ps := List.mem_of_getElem? hpi
    have hsn := flatP_snoc hpi
    have hle := flatP_take_le ps (i + 1)
    rw [hsn, List.length_append] at hle
    obtain ⟨b0, o0, hA, _⟩ := hr.rd.1.plain (by simp; omega)
    subst hA
    have hbl := stB_length l
    refine WC.skip ?_
    refine WX.next (?_)
    refine WC.seq ?_
    refine WC.block ?_
    refine WC.seq ?_
    refine WC.region ?_
    refine WL.ex rfl rfl rfl (Ex.ia Tryd.underlying153 sz112 rfl rfl ⟨by omega, by omega⟩) ?_
    refine WL.ex rfl rfl rfl (Ex.load ty112 rfl (Rd.at1 (u := svV p) (hr.row M5.keep) (j := (i : Int).toNat * 1) (by simp [hpi]))) ?_
    refine WL.ex rfl rfl rfl (Ex.asg rfl) ?_
    refine WL.nil ?_
    refine WX.next (?_)
    refine WC.seq ?_
    refine WC.region ?_
    refine WL.ex rfl rfl rfl (Ex.mv rfl) ?_
    refine WL.ex rfl rfl rfl (Ex.nilc rfl) ?_
    refine WL.ex rfl rfl rfl (Ex.fa fl189_2 rfl) ?_
    refine WL.ex rfl rfl rfl (Ex.load ty23 rfl (M5.cell (i := 0) rfl (stC_9 hws _ _))) ?_
    refine WL.ex rfl rfl rfl (Ex.mv rfl) ?_
    refine WL.ex rfl rfl rfl (Ex.len Tryd.underlying112 rfl) ?_
    refine WL.ex rfl rfl rfl (Ex.cvI Tryd.underlying3 Tryd.underlying23 rfl (u64w_lt _ (by omega))) ?_
    refine WL.ex rfl rfl rfl (Ex.add rfl rfl (c := ((l.length + (flatP (ps.take i)).length + p.l.length : Nat) : Int)) (by rw [show ((l.length + (flatP (ps.take i)).length : Nat) : Int) + (p.l.length : Int) = ((l.length + (flatP (ps.take i)).length + p.l.length : Nat) : Int) by omega]; exact u64w_lt _ (by omega))) ?_
    refine WL.ex rfl rfl rfl (Ex.nilc rfl) ?_
    refine WL.ex rfl rfl rfl (Ex.fa fl189_2 rfl) ?_
    refine WL.ac0 rfl rfl (Ac.st M5 ty23 rfl rfl rfl (i := 0) rfl (by rw [stC_len hws]; decide)) ?_; rintro v20 w20 ⟨K20, M20⟩
    try dsimp only [List.set] at M20
    replace M20 := M20.eqv (i := 0) rfl (r' := blk g (stC (stW l) v (l.length + (flatP (ps.take i)).length + p.l.length)) 189) (congrArg (fun x => blk g x 189) (stC_s9 hws _ _ _))
    try dsimp only [List.set] at M20
    refine WL.nil ?_
    refine WX.next (?_)
    refine WC.region ?_
    refine WL.ex rfl rfl rfl (Ex.mv rfl) ?_
    refine WL.ex rfl rfl rfl (Ex.mv rfl) ?_
    refine WL.ex rfl rfl rfl (Ex.nilc rfl) ?_
    refine WL.ex rfl rfl rfl (Ex.fa fl189_1 rfl) ?_
    refine WL.ex rfl rfl rfl (Ex.load ty112 rfl (M20.cell (i := 0) rfl (stC_8 hws _ _))) ?_
    refine WL.ex rfl rfl rfl (Ex.mv rfl) ?_
    refine WL.ac rfl rfl rfl (Ac.appm M20 el112 rfl rfl (i := 1) rfl (by simp) (hr.part M20.keep hpm) (bytesV_one _) (by simp; omega) (by simp [maxLen]; omega)) ?_; rintro v27 w27 ⟨K27, M27⟩
    try dsimp only [List.set] at M27
    obtain ⟨v3, rfl⟩ : ∃ v3, v3 = v27 := ⟨_, rfl⟩
    rw [← bytesV_append, List.append_assoc, ← hsn] at M27
    refine WL.ex rfl rfl rfl (Ex.nilc rfl) ?_
    refine WL.ex rfl rfl rfl (Ex.fa fl189_1 rfl) ?_
    refine WL.ac0 rfl rfl (Ac.st M27 ty112 rfl rfl (by obtain ⟨_, _, hv⟩ := mrw_len (M27.get (i := 1) rfl); rw [hv]; rfl) (i := 0) rfl (by rw [stC_len hws]; decide)) ?_; rintro v30 w30 ⟨K30, M30⟩
    try dsimp only [List.set] at M30
    replace M30 := M30.eqv (i := 0) rfl (r' := blk g _ 189) (congrArg (fun x => blk g x 189) (stC_s8 hws _ _ _))
    try dsimp only [List.set] at M30
    rw [Nat.add_assoc, ← List.length_append, ← hsn] at M30
    refine WL.nil ?_
    refine WX.normal_block (WX.next (?_))
    refine WC.region ?_
    refine WL.ex rfl rfl rfl (Ex.add rfl rfl (i64w _ (by omega) (by omega))) ?_
    refine WL.ex rfl rfl rfl (Ex.mv rfl) ?_
    refine WL.nil ?_
    refine WX.again (((i + 1, v3) : Nat × Value)) ?_ ?_ (.cons rfl (.cons rfl (.cons rfl (.cons rfl (.nil)))))
    · (try dsimp only); omega
    · exact ⟨by dsimp only; omega, M30⟩
  · obtain rfl : i = ps.length := by omega
    rw [List.take_length] at M5
    refine WC.exit ?_
    refine WX.exit_then (WX.exit_then (WX.exit_block (WX.next (?_))))
    refine WC.seq ?_
    refine WC.block ?_
    obtain ⟨R, hR⟩ : ∃ R, R = stB l ++ flatP ps := ⟨_, rfl⟩
    rw [← hR] at M5
    have hRl : R.length = l.length % 64 + (flatP ps).length := by rw [hR, List.length_append, stB_length]
    refine WC.loop (σ := Nat × Value) (fun s => [(0, .pointer (some ⟨g, 0, none⟩))]) (fun s wr => 64 * s.1 ≤ R.length ∧ Mem w wr (· ∈ (stR g v0 l).fp) [blk g (stC (comps s.1 (stW l) R) s.2 (l.length + (flatP ps).length)) 189, mrw s.2 5 (bytesV (R.drop (64 * s.1)))]) (fun s => R.length - 64 * s.1) (((0, v) : Nat × Value)) ?_ (.cons rfl (.nil)) ?_
    · refine ⟨by dsimp only; omega, ?_⟩
      simpa [comps] using M5
    rintro ⟨k, v⟩ w33 ⟨hk, M33⟩
    dsimp only at hk M33
    refine WC.sub (env' := [(0, .pointer (some ⟨g, 0, none⟩))]) (.cons rfl (.nil)) ?_
    refine WC.seq ?_
    refine WC.seq ?_
    refine WC.region ?_
    refine WL.ex rfl rfl rfl (Ex.mv rfl) ?_
    refine WL.ex rfl rfl rfl (Ex.nilc rfl) ?_
    refine WL.ex rfl rfl rfl (Ex.fa fl189_1 rfl) ?_
    have hwk := comps_ok k (stW_ok l) R
    obtain ⟨A2, c2, hv2⟩ := mrw_len (M33.get (i := 1) rfl)
    subst hv2
    refine WL.ex rfl rfl rfl (Ex.load ty112 rfl (M33.cell (i := 0) rfl (stC_8 hwk.1 _ _))) ?_
    refine WL.ex rfl rfl rfl (Ex.len Tryd.underlying112 rfl) ?_
    refine WL.ex rfl rfl rfl (Ex.geq rfl rfl) ?_
    refine WL.nil ?_
    refine WX.next (?_)
    refine WC.cond_dec rfl (fun h64 => ?_) (fun h64 => ?_)
    · have h64b : 64 * k + 64 ≤ R.length := by simp at h64; omega
      have hc2 := mrw_cap (M33.get (i := 1) rfl)
      simp only [bytesV_length, List.length_drop] at hc2
      have hrd := mrw_rd (M33.get (i := 1) rfl)
      have hne := M33.apart (i := 0) (j := 1) rfl rfl (by decide) g (by simp [blk])
      refine WC.skip ?_
      refine WX.next (?_)
      refine WC.block ?_
      refine WC.seq ?_
      refine WC.region ?_
      refine WL.ex rfl rfl rfl (Ex.mv rfl) ?_
      refine WL.ex rfl rfl rfl (Ex.mv rfl) ?_
      refine WL.ex rfl rfl rfl (Ex.nilc rfl) ?_
      refine WL.ex rfl rfl rfl (Ex.fa fl189_1 rfl) ?_
      refine WL.ex rfl rfl rfl (Ex.load ty112 rfl (M33.cell (i := 0) rfl (stC_8 hwk.1 _ _))) ?_
      refine WL.ex rfl rfl rfl (Ex.slh (A := A2) (c := c2) Tryd.underlying112 sz5 rfl rfl (by omega) (by omega)) ?_
      refine WL.ac rfl rfl rfl (Ac.call rfl Tryd.func130 nm130 rfl (stake_ok w33 g (comps k (stW l) R) _ A2 c2 ((R.drop (64 * k)).take 64) (M33.get (i := 0) rfl) hwk (by simp; omega) (by omega) (by have := hrd.take 64; simpa [bytesV] using this) (fun a ha hb => hne (by subst ha; simp [mrw, Value.ownBlock, hb])) (hT.keepF M33.keep hFT) hg)) ?_; rintro v46 w46 T46
      have M46 := M33.turned (i := 0) rfl T46
      try dsimp only [List.set] at M46
      replace M46 := M46.eqv (i := 0) rfl (r' := blk g (stC (comps (k + 1) (stW l) R) _ (l.length + (flatP ps).length)) 189) (by rw [comps_succ]; rfl)
      try dsimp only [List.set] at M46
      have hwk1 := comps_ok (k + 1) (stW_ok l) R
      refine WL.nil ?_
      refine WX.next (?_)
      refine WC.region ?_
      refine WL.ex rfl rfl rfl (Ex.mv rfl) ?_
      refine WL.ex rfl rfl rfl (Ex.mv rfl) ?_
      refine WL.ex rfl rfl rfl (Ex.nilc rfl) ?_
      refine WL.ex rfl rfl rfl (Ex.fa fl189_1 rfl) ?_
      refine WL.ex rfl rfl rfl (Ex.load ty112 rfl (M46.cell (i := 0) rfl (stC_8 hwk1.1 _ _))) ?_
      refine WL.ex rfl rfl rfl (Ex.sll (A := A2) (c := c2) Tryd.underlying112 sz5 rfl rfl (by decide) (by simp; omega)) ?_
      obtain ⟨v4, hv4⟩ : ∃ v4, v4 = Value.slice (if c2 = (64 : Int).toNat then A2 else A2.map (·.add ((64 : Int).toNat * 1))) ((bytesV (R.drop (64 * k))).length - (64 : Int).toNat) (c2 - (64 : Int).toNat) := ⟨_, rfl⟩
      rw [← hv4]
      refine WL.ex rfl rfl rfl (Ex.nilc rfl) ?_
      refine WL.ex rfl rfl rfl (Ex.fa fl189_1 rfl) ?_
      refine WL.ac0 rfl rfl (Ac.st M46 ty112 rfl rfl (by rw [hv4]; rfl) (i := 0) rfl (by rw [stC_len hwk1.1]; decide)) ?_; rintro v55 w55 ⟨K55, M55⟩
      try dsimp only [List.set] at M55
      replace M55 := M55.eqv (i := 0) rfl (r' := blk g (stC (comps (k + 1) (stW l) R) v4 (l.length + (flatP ps).length)) 189) (congrArg (fun x => blk g x 189) (stC_s8 hwk1.1 _ _ _))
      try dsimp only [List.set] at M55
      replace M55 := M55.view (i := 1) rfl (r' := mrw v4 5 (bytesV (R.drop (64 * (k + 1))))) (fun h => mrw_mv (mrw_drop h (k := 64) (by simp; omega)) hv4.symm (by simp [bytesV, Nat.mul_add])) (fun b hb => by rw [hv4] at hb; exact mrw_drop_fp hb)
      try dsimp only [List.set] at M55
      refine WL.nil ?_
      refine WX.normal_block (?_)
      refine WX.again (((k + 1, v4) : Nat × Value)) ?_ ?_ (.cons rfl (.nil))
      · (try dsimp only); omega
      · exact ⟨by dsimp only; omega, M55⟩
    · have h64b : R.length < 64 * k + 64 := by simp at h64; omega
      obtain rfl : k = R.length / 64 := by omega
      refine WC.exit ?_
      refine WX.exit_then (WX.exit_then (WX.exit_block (WX.next (?_))))
      refine WC.seq ?_
      refine WC.region ?_
      refine WL.ex rfl rfl rfl (Ex.mv rfl) ?_
      refine WL.ex rfl rfl rfl (Ex.asg rfl) ?_
      refine WL.nil ?_
      refine WX.next (?_)
      refine WC.ret ?_
      refine WX.ret1 rfl rfl ?_
      have hsm := st_more l (flatP ps)
      rw [← hR] at hsm
      rw [← hsm.1, ← hsm.2, ← List.length_append] at M33
      exact ⟨rfl, _, (M33.closeS).toTurn⟩

end Go.Proofs.YtchmjpdkonfifaaDoor
