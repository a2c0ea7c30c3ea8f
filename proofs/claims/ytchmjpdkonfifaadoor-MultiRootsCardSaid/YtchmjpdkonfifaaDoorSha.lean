/-
  The sum of 32 bytes, as a plain function on lists; no program in sight.
-/
import Derived.Test.YtchmjpdkonfifaaDoorPl
set_option linter.unusedVariables false
set_option linter.unusedSimpArgs false
namespace Go.Sx
open Go.RowKit

/-! ### Rows of numbers of 32 bits -/
def u32V (a : List Nat) : List Value := a.map fun (x : Nat) => .int .u32 (x : Int)
abbrev U32s (n : Nat) (a : List Nat) : Prop := a.length = n ∧ ∀ x ∈ a, x < 4294967296
@[simp] theorem u32V_length (a : List Nat) : (u32V a).length = a.length := by simp [u32V]
theorem u32V_get {a : List Nat} {i : Nat} (h : i < a.length) : (u32V a)[i]? = some (.int .u32 ((a.getD i 0 : Nat) : Int)) := by simp [u32V, h]
theorem u32V_at {a : List Nat} {i o : Nat} (h : i < a.length) (ho : o = i) : (u32V a)[o]? = some (.int .u32 ((a.getD i 0 : Nat) : Int)) := by subst ho; exact u32V_get h
theorem u32V_self {a : List Nat} {i x o : Nat} (h : i < a.length) (ho : o = i) : (u32V (a.set i x))[o]? = some (.int .u32 (x : Int)) := by subst ho; simp [u32V, h]
theorem u32V_one (a : List Nat) : ∀ u ∈ u32V a, u.oneCell' = true := by
  intro u hu
  obtain ⟨x, _, rfl⟩ := List.mem_map.1 hu
  rfl
theorem u32V_set (a : List Nat) (i x : Nat) : (u32V a).set i (.int .u32 (x : Int)) = u32V (a.set i x) := by simp [u32V, List.map_set]
theorem u32s_len {n : Nat} {a : List Nat} (h : U32s n a) : (u32V a).length = n := by simp [h.1]
theorem u32s_0 (n : Nat) : U32s n (List.replicate n 0) := ⟨by simp, fun x hx => by rw [List.eq_of_mem_replicate hx]; decide⟩
theorem u32s_get {n i : Nat} {a : List Nat} (h : U32s n a) : a.getD i 0 < 4294967296 := by
  rw [List.getD]
  cases hi : a[i]? with
  | none => simp
  | some x => exact h.2 x (List.mem_of_getElem? hi)
theorem u32s_set {n i x : Nat} {a : List Nat} (h : U32s n a) (hx : x < 4294967296) : U32s n (a.set i x) := ⟨by simp [h.1], fun y hy => by
  rcases List.mem_or_eq_of_mem_set hy with h1 | h1
  · exact h.2 y h1
  · rw [h1]; exact hx⟩

/-! ### The function -/
def rotr (n x : Nat) : Nat := x / 2 ^ n + x % 2 ^ n * 2 ^ (32 - n)
def three (a b c x : Nat) : Nat := rotr a x ^^^ rotr b x ^^^ rotr c x
def sg0 (x : Nat) : Nat := rotr 7 x ^^^ rotr 18 x ^^^ x / 2 ^ 3
def sg1 (x : Nat) : Nat := rotr 17 x ^^^ rotr 19 x ^^^ x / 2 ^ 10
def cho (e f g : Nat) : Nat := (e &&& f) ^^^ ((4294967295 - e) &&& g)
def maj (a b c : Nat) : Nat := (a &&& b) ^^^ (a &&& c) ^^^ (b &&& c)
def kTab : List Nat := [1116352408, 1899447441, 3049323471, 3921009573, 961987163, 1508970993, 2453635748, 2870763221, 3624381080, 310598401, 607225278, 1426881987, 1925078388, 2162078206, 2614888103, 3248222580, 3835390401, 4022224774, 264347078, 604807628, 770255983, 1249150122, 1555081692, 1996064986, 2554220882, 2821834349, 2952996808, 3210313671, 3336571891, 3584528711, 113926993, 338241895, 666307205, 773529912, 1294757372, 1396182291, 1695183700, 1986661051, 2177026350, 2456956037, 2730485921, 2820302411, 3259730800, 3345764771, 3516065817, 3600352804, 4094571909, 275423344, 430227734, 506948616, 659060556, 883997877, 958139571, 1322822218, 1537002063, 1747873779, 1955562222, 2024104815, 2227730452, 2361852424, 2428436474, 2756734187, 3204031479, 3329325298]
def hBeg : List Nat := [1779033703, 3144134277, 1013904242, 2773480762, 1359893119, 2600822924, 528734635, 1541459225]
def wval (p : List UInt8) (i : Nat) (w : List Nat) : Nat :=
  if i < 16 then beVal ((p.drop (4 * i)).take 4) else (w.getD (i - 16) 0 + w.getD (i - 7) 0 + sg0 (w.getD (i - 15) 0) + sg1 (w.getD (i - 2) 0)) % 4294967296
def wAt (p : List UInt8) : Nat → List Nat
  | 0 => List.replicate 64 0
  | i + 1 => (wAt p i).set i (wval p i (wAt p i))
def rnd (a : List Nat) (k w : Nat) : List Nat :=
  [(a.getD 7 0 + three 6 11 25 (a.getD 4 0) + cho (a.getD 4 0) (a.getD 5 0) (a.getD 6 0) + k + w + (three 2 13 22 (a.getD 0 0) + maj (a.getD 0 0) (a.getD 1 0) (a.getD 2 0))) % 4294967296,
   a.getD 0 0, a.getD 1 0, a.getD 2 0, (a.getD 3 0 + (a.getD 7 0 + three 6 11 25 (a.getD 4 0) + cho (a.getD 4 0) (a.getD 5 0) (a.getD 6 0) + k + w)) % 4294967296, a.getD 4 0, a.getD 5 0, a.getD 6 0]
def rAt (h w : List Nat) : Nat → List Nat
  | 0 => h
  | i + 1 => rnd (rAt h w i) (kTab.getD i 0) (w.getD i 0)
def addW (h a : List Nat) (i : Nat) : List Nat := fillTo 8 i (fun j => (h.getD j 0 + a.getD j 0) % 4294967296) 0
def addT (h a : List Nat) (i : Nat) : List Nat := (List.range 8).map fun j => if j < i then (h.getD j 0 + a.getD j 0) % 4294967296 else h.getD j 0
def comp (h : List Nat) (p : List UInt8) : List Nat := addT h (rAt h (wAt p 64) 64) 8
def comps : Nat → List Nat → List UInt8 → List Nat
  | 0, h, _ => h
  | n + 1, h, l => comps n (comp h (l.take 64)) (l.drop 64)
def tail (n : Nat) : List UInt8 := [128] ++ List.replicate ((119 - n % 64) % 64) 0 ++ be 8 (8 * n)
def pad (b : List UInt8) : List UInt8 := b ++ tail b.length
def outB (h : List Nat) : List UInt8 := (List.range 32).map fun i => UInt8.ofNat (h.getD (i / 4) 0 / 2 ^ (24 - 8 * (i % 4)))
def sha (b : List UInt8) : List UInt8 := outB (comps ((pad b).length / 64) hBeg (pad b))

@[simp] theorem sha_length (b : List UInt8) : (sha b).length = 32 := by simp [sha, outB]
theorem tail_length (n : Nat) : (tail n).length = 9 + (119 - n % 64) % 64 := by simp [tail]; omega
theorem pad_length (b : List UInt8) : (pad b).length = b.length + 9 + (119 - b.length % 64) % 64 := by simp [pad, tail_length]; omega
theorem pad_mod (b : List UInt8) : (pad b).length % 64 = 0 := by rw [pad_length]; omega

theorem xor32 {a b : Nat} (ha : a < 4294967296) (hb : b < 4294967296) : a ^^^ b < 4294967296 := Nat.xor_lt_two_pow (n := 32) ha hb
theorem and32 {a b : Nat} (ha : a < 4294967296) : a &&& b < 4294967296 := Nat.lt_of_le_of_lt Nat.and_le_left ha
theorem or32 {a b : Nat} (ha : a < 4294967296) (hb : b < 4294967296) : a ||| b < 4294967296 := Nat.or_lt_two_pow (n := 32) ha hb
theorem rotr_lt {n x : Nat} (hn : n ≤ 32) (hx : x < 4294967296) : rotr n x < 4294967296 := by
  have e : 2 ^ n * 2 ^ (32 - n) = 4294967296 := by rw [← Nat.pow_add, Nat.add_sub_cancel' hn]
  have h1 : x / 2 ^ n < 2 ^ (32 - n) := Nat.div_lt_of_lt_mul (by rw [e]; exact hx)
  have h2 : x % 2 ^ n < 2 ^ n := Nat.mod_lt _ (Nat.pow_pos (by decide))
  have h3 : (x % 2 ^ n + 1) * 2 ^ (32 - n) ≤ 2 ^ n * 2 ^ (32 - n) := Nat.mul_le_mul_right _ h2
  rw [Nat.add_mul, Nat.one_mul, e] at h3
  unfold rotr
  omega
/-- The two parts of a turned number lie apart. -/
theorem rotr_or {n x : Nat} (hn : n ≤ 32) (hx : x < 4294967296) : (x % 2 ^ n * 2 ^ (32 - n)) ||| (x / 2 ^ n) = rotr n x := by
  have e : 2 ^ n * 2 ^ (32 - n) = 4294967296 := by rw [← Nat.pow_add, Nat.add_sub_cancel' hn]
  have h1 : x / 2 ^ n < 2 ^ (32 - n) := Nat.div_lt_of_lt_mul (by rw [e]; exact hx)
  rw [or_add h1, rotr, Nat.add_comm]
theorem three_lt {a b c x : Nat} (ha : a ≤ 32) (hb : b ≤ 32) (hc : c ≤ 32) (hx : x < 4294967296) : three a b c x < 4294967296 := xor32 (xor32 (rotr_lt ha hx) (rotr_lt hb hx)) (rotr_lt hc hx)
theorem sg0_lt {x : Nat} (hx : x < 4294967296) : sg0 x < 4294967296 := xor32 (xor32 (rotr_lt (by decide) hx) (rotr_lt (by decide) hx)) (Nat.lt_of_le_of_lt (Nat.div_le_self _ _) hx)
theorem sg1_lt {x : Nat} (hx : x < 4294967296) : sg1 x < 4294967296 := xor32 (xor32 (rotr_lt (by decide) hx) (rotr_lt (by decide) hx)) (Nat.lt_of_le_of_lt (Nat.div_le_self _ _) hx)
theorem cho_lt {e f g : Nat} (he : e < 4294967296) : cho e f g < 4294967296 := xor32 (and32 he) (and32 (by omega))
theorem maj_lt {a b c : Nat} (ha : a < 4294967296) (hb : b < 4294967296) : maj a b c < 4294967296 := xor32 (xor32 (and32 ha) (and32 ha)) (and32 hb)

theorem wval_lt (p : List UInt8) (i : Nat) (w : List Nat) : wval p i w < 4294967296 := by
  unfold wval
  split
  · exact Nat.lt_of_lt_of_le (beVal_lt_of (n := 4) (by simp; omega)) (by decide)
  · exact Nat.mod_lt _ (by decide)
theorem wAt_ok (p : List UInt8) : ∀ i, U32s 64 (wAt p i)
  | 0 => u32s_0 64
  | i + 1 => u32s_set (wAt_ok p i) (wval_lt _ _ _)
theorem rnd_ok {a : List Nat} (h : U32s 8 a) (k w : Nat) : U32s 8 (rnd a k w) := by
  refine ⟨rfl, fun x hx => ?_⟩
  simp only [rnd, List.mem_cons, List.not_mem_nil, or_false] at hx
  rcases hx with rfl | rfl | rfl | rfl | rfl | rfl | rfl | rfl
  · exact Nat.mod_lt _ (by decide)
  · exact u32s_get h
  · exact u32s_get h
  · exact u32s_get h
  · exact Nat.mod_lt _ (by decide)
  · exact u32s_get h
  · exact u32s_get h
  · exact u32s_get h
theorem rAt_ok {h : List Nat} (hh : U32s 8 h) (w : List Nat) : ∀ i, U32s 8 (rAt h w i)
  | 0 => hh
  | i + 1 => rnd_ok (rAt_ok hh w i) _ _
theorem addT_ok {h a : List Nat} (hh : U32s 8 h) (i : Nat) : U32s 8 (addT h a i) := by
  refine ⟨by simp [addT], fun x hx => ?_⟩
  obtain ⟨j, _, rfl⟩ := List.mem_map.1 hx
  split
  · exact Nat.mod_lt _ (by decide)
  · exact u32s_get hh
theorem addT_0 {h a : List Nat} (hh : h.length = 8) : addT h a 0 = h := by
  apply List.ext_getElem
  · simp [addT, hh]
  · intro i h1 h2
    simp [addT, List.getD, h2]
theorem addT_get {h a : List Nat} {i j : Nat} (hj : j < 8) : (addT h a i).getD j 0 = if j < i then (h.getD j 0 + a.getD j 0) % 4294967296 else h.getD j 0 := by simp [addT, hj]
theorem addT_set {h a : List Nat} {i : Nat} (hi : i < 8) : (addT h a i).set i ((h.getD i 0 + a.getD i 0) % 4294967296) = addT h a (i + 1) := by
  apply List.ext_getElem
  · simp [addT]
  · intro j h1 h2
    simp only [addT, List.getElem_set, List.getElem_map, List.getElem_range]
    split
    · rename_i e; subst e; rw [if_pos (by omega)]
    · rename_i e
      by_cases h3 : j < i
      · rw [if_pos h3, if_pos (by omega)]
      · rw [if_neg h3, if_neg (by omega)]
theorem comp_ok {h : List Nat} (hh : U32s 8 h) (p : List UInt8) : U32s 8 (comp h p) := addT_ok hh 8
theorem comps_ok : ∀ (n : Nat) {h : List Nat} (_ : U32s 8 h) (l : List UInt8), U32s 8 (comps n h l)
  | 0, _, hh, _ => hh
  | n + 1, _, hh, l => comps_ok n (comp_ok hh _) _
theorem hBeg_ok : U32s 8 hBeg := by decide
theorem kTab_ok : U32s 64 kTab := by decide
theorem comps_add : ∀ (a b : Nat) (h : List Nat) (l : List UInt8), comps (a + b) h l = comps b (comps a h l) (l.drop (64 * a))
  | 0, b, h, l => by simp [comps]
  | a + 1, b, h, l => by
    rw [show a + 1 + b = (a + b) + 1 by omega, comps, comps_add a b, comps, List.drop_drop]
    congr 2
    omega
theorem comps_pre : ∀ (n : Nat) (h : List Nat) (l m : List UInt8), 64 * n ≤ l.length → comps n h (l ++ m) = comps n h l
  | 0, h, l, m, _ => rfl
  | n + 1, h, l, m, hl => by
    rw [comps, comps, List.take_append_of_le_length (by omega), List.drop_append_of_le_length (by omega), comps_pre n _ _ _ (by simp; omega)]
theorem comps_succ (n : Nat) (h : List Nat) (l : List UInt8) : comps (n + 1) h l = comp (comps n h l) ((l.drop (64 * n)).take 64) := by
  rw [comps_add n 1, comps, comps]

/-! ### A sum that goes on -/
def stW (l : List UInt8) : List Nat := comps (l.length / 64) hBeg l
def stB (l : List UInt8) : List UInt8 := l.drop (64 * (l.length / 64))
theorem stW_ok (l : List UInt8) : U32s 8 (stW l) := comps_ok _ hBeg_ok _
theorem stB_length (l : List UInt8) : (stB l).length = l.length % 64 := by simp [stB]; omega
theorem st_more (l m : List UInt8) : stW (l ++ m) = comps ((stB l ++ m).length / 64) (stW l) (stB l ++ m) ∧ stB (l ++ m) = (stB l ++ m).drop (64 * ((stB l ++ m).length / 64)) := by
  have hb := stB_length l
  have hl : (l ++ m).length / 64 = l.length / 64 + (stB l ++ m).length / 64 := by
    simp only [List.length_append, hb]; omega
  have hd : (l ++ m).drop (64 * (l.length / 64)) = stB l ++ m := by
    rw [List.drop_append_of_le_length (by omega)]; rfl
  constructor
  · rw [stW, hl, comps_add, hd, comps_pre (l.length / 64) hBeg l m (by omega)]; rfl
  · rw [stB, hl, Nat.mul_add, ← List.drop_drop, hd]
theorem sha_st (b : List UInt8) : sha b = outB (stW (b ++ tail b.length)) := rfl

/-! ### Steps of the words -/
theorem wAt_zero (p : List UInt8) : ∀ i j, i ≤ j → (wAt p i).getD j 0 = 0
  | 0, j, _ => by
    simp only [wAt, List.getD, List.getElem?_replicate]
    split <;> rfl
  | i + 1, j, h => by
    have := wAt_zero p i j (by omega)
    rw [List.getD] at this ⊢
    rw [wAt, List.getElem?_set_ne (by omega)]
    exact this
theorem set_same {l : List Nat} {i : Nat} (h : i < l.length) : l.set i (l.getD i 0) = l := by
  apply List.ext_getElem
  · simp
  · intro j h1 h2
    rw [List.getElem_set]
    split
    · rename_i e; subst e; simp [List.getD, h]
    · rfl
theorem wAt_self (p : List UInt8) {i : Nat} (h : i < 64) : (wAt p i).set i 0 = wAt p i := by
  have h1 := wAt_zero p i i (Nat.le_refl _)
  have h2 := set_same (l := wAt p i) (i := i) (by rw [(wAt_ok p i).1]; exact h)
  rwa [h1] at h2
theorem getD_set_same {l : List Nat} {i x : Nat} (h : i < l.length) : (l.set i x).getD i 0 = x := by simp [List.getD, h]
theorem getD_set_ne {l : List Nat} {i j x : Nat} (h : i ≠ j) : (l.set i x).getD j 0 = l.getD j 0 := by simp [List.getD, List.getElem?_set_ne h]
theorem wAt_lo (p : List UInt8) {i : Nat} (h : i < 16) : wAt p (i + 1) = (wAt p i).set i (beVal ((p.drop (4 * i)).take 4)) := by rw [wAt, wval, if_pos h]
theorem wAt_hi (p : List UInt8) {i : Nat} (h : ¬ i < 16) {x : Nat} (hx : x = ((wAt p i).getD (i - 16) 0 + (wAt p i).getD (i - 7) 0 + sg0 ((wAt p i).getD (i - 15) 0) + sg1 ((wAt p i).getD (i - 2) 0)) % 4294967296) : (wAt p i).set i x = wAt p (i + 1) := by rw [wAt, wval, if_neg h, hx]
theorem u32V_atL {a : List Nat} {tl : List Value} {i o : Nat} (h : i < a.length) (ho : o = i) : (u32V a ++ tl)[o]? = some (.int .u32 ((a.getD i 0 : Nat) : Int)) := by
  subst ho
  rw [List.getElem?_append_left (by simpa using h)]
  exact u32V_get h
theorem u32V_setL {a : List Nat} {tl : List Value} {i : Nat} (h : i < a.length) (x : Nat) : (u32V a ++ tl).set i (.int .u32 (x : Int)) = u32V (a.set i x) ++ tl := by
  rw [List.set_append_left _ _ (by simpa using h), u32V_set]
theorem u32V_pre {a : List Nat} {tl : List Value} (h : a.length = 8) : ((u32V a ++ tl).drop 0).take 8 = u32V a := by
  rw [List.drop_zero]
  have := List.take_left' (l₁ := u32V a) (l₂ := tl) (i := 8) (by simpa using h)
  exact this
theorem add32N (a b : Nat) : IntKind.u32.wrap ((a : Int) + (b : Int)) = (((a + b) % 4294967296 : Nat) : Int) := by
  rw [show (a : Int) + (b : Int) = ((a + b : Nat) : Int) by omega, u32w]
/-- The cells of a sum that goes on. -/
def stC (ws : List Nat) (v : Value) (n : Nat) : List Value := u32V ws ++ ([v] ++ [.int .u64 (n : Int)])
theorem stC_len {ws : List Nat} (h : ws.length = 8) (v : Value) (n : Nat) : (stC ws v n).length = 10 := by simp [stC, h]
theorem stC_8 {ws : List Nat} (h : ws.length = 8) (v : Value) (n : Nat) : (stC ws v n)[8]? = some v := by
  rw [stC, List.getElem?_append_right (by simp [h])]
  simp [h]
theorem stC_9 {ws : List Nat} (h : ws.length = 8) (v : Value) (n : Nat) : (stC ws v n)[9]? = some (.int .u64 (n : Int)) := by
  rw [stC, List.getElem?_append_right (by simp [h])]
  simp [h]
theorem stC_s8 {ws : List Nat} (h : ws.length = 8) (v u : Value) (n : Nat) : (stC ws v n).set 8 u = stC ws u n := by
  rw [stC, List.set_append_right _ _ (by simp [h])]
  simp [h, stC]
theorem stC_s9 {ws : List Nat} (h : ws.length = 8) (v : Value) (n m : Nat) : (stC ws v n).set 9 (.int .u64 (m : Int)) = stC ws v m := by
  rw [stC, List.set_append_right _ _ (by simp [h])]
  simp [h, stC]
theorem bld8 {x0 x1 x2 x3 x4 x5 x6 x7 : Nat} : okS (fun i => ([(0, 1), (1, 1), (2, 1), (3, 1), (4, 1), (5, 1), (6, 1), (7, 1)] : List (Nat × Nat))[i]?) (List.replicate 8 (.int .u32 0)) [(0, .int .u32 (x0 : Int)), (1, .int .u32 (x1 : Int)), (2, .int .u32 (x2 : Int)), (3, .int .u32 (x3 : Int)), (4, .int .u32 (x4 : Int)), (5, .int .u32 (x5 : Int)), (6, .int .u32 (x6 : Int)), (7, .int .u32 (x7 : Int))] [[.int .u32 (x0 : Int)], [.int .u32 (x1 : Int)], [.int .u32 (x2 : Int)], [.int .u32 (x3 : Int)], [.int .u32 (x4 : Int)], [.int .u32 (x5 : Int)], [.int .u32 (x6 : Int)], [.int .u32 (x7 : Int)]] (u32V [x0, x1, x2, x3, x4, x5, x6, x7]) :=
  ⟨0, 1, rfl, rfl, rfl, by simp [splice], 1, 1, rfl, rfl, rfl, by simp [splice], 2, 1, rfl, rfl, rfl, by simp [splice], 3, 1, rfl, rfl, rfl, by simp [splice], 4, 1, rfl, rfl, rfl, by simp [splice], 5, 1, rfl, rfl, rfl, by simp [splice], 6, 1, rfl, rfl, rfl, by simp [splice], 7, 1, rfl, rfl, rfl, by simp [splice], rfl⟩
/-- One of the eight bytes of a number. -/
theorem be8_get (x : Nat) {i : Nat} (h : i < 8) : (be 8 x)[i]? = some (UInt8.ofNat (x / 2 ^ (56 - 8 * i))) := by
  rcases (by omega : i = 0 ∨ i = 1 ∨ i = 2 ∨ i = 3 ∨ i = 4 ∨ i = 5 ∨ i = 6 ∨ i = 7) with rfl | rfl | rfl | rfl | rfl | rfl | rfl | rfl <;> simp [be]

/-! ### The reference's ways -/
def down1 (x : Nat) (turn : Bool) : Nat := if turn = true ∧ x % 2 = 1 then x / 2 + 2147483648 else x / 2
def downs (turn : Bool) (x : Nat) : Nat → Nat
  | 0 => x
  | n + 1 => down1 (downs turn x n) turn
theorem down1_lt {x : Nat} (hx : x < 4294967296) (t : Bool) : down1 x t < 4294967296 := by
  unfold down1
  split <;> omega
theorem downs_lt {x : Nat} (hx : x < 4294967296) (t : Bool) : ∀ n, downs t x n < 4294967296
  | 0 => hx
  | n + 1 => down1_lt (downs_lt hx t n) t
theorem downs_false (x : Nat) : ∀ n, downs false x n = x / 2 ^ n
  | 0 => by simp [downs]
  | n + 1 => by rw [downs, downs_false x n, down1, if_neg (by simp), Nat.div_div_eq_div_mul, Nat.pow_succ]
theorem rotr_succ {n x : Nat} (hn : n < 32) : down1 (rotr n x) true = rotr (n + 1) x := by
  have e1 : 2 ^ (32 - n) = 2 * 2 ^ (32 - (n + 1)) := by rw [← Nat.pow_succ']; congr 1; omega
  have e2 : x / 2 ^ (n + 1) = x / 2 ^ n / 2 := by rw [Nat.pow_succ, Nat.div_div_eq_div_mul]
  have e3 : x % 2 ^ (n + 1) = x % 2 ^ n + 2 ^ n * (x / 2 ^ n % 2) := by rw [Nat.pow_succ, Nat.mod_mul]
  have e4 : 2 ^ n * 2 ^ (32 - (n + 1)) = 2147483648 := by rw [← Nat.pow_add, show n + (32 - (n + 1)) = 31 by omega]
  obtain ⟨A, hA⟩ : ∃ A, A = x / 2 ^ n := ⟨_, rfl⟩
  obtain ⟨B, hB⟩ : ∃ B, B = x % 2 ^ n * 2 ^ (32 - (n + 1)) := ⟨_, rfl⟩
  have hr : rotr n x = A + 2 * B := by rw [rotr, e1, hA, hB]; rw [Nat.mul_left_comm]
  have hs : rotr (n + 1) x = A / 2 + (B + 2147483648 * (A % 2)) := by
    rw [rotr, e2, e3, ← hA, Nat.add_mul, ← hB, Nat.mul_right_comm, e4]
  rw [hr, hs, down1]
  by_cases h : A % 2 = 1
  · rw [if_pos ⟨rfl, by omega⟩, h]; omega
  · rw [if_neg (fun h2 => by have := h2.2; omega)]
    have : A % 2 = 0 := by omega
    rw [this]; omega
theorem downs_true (x : Nat) : ∀ n, n ≤ 32 → downs true x n = rotr n x
  | 0, _ => by simp [downs, rotr, Nat.mod_one]
  | n + 1, h => by rw [downs, downs_true x n (by omega), rotr_succ (by omega)]
theorem tb_com {e i : Nat} (he : e < 4294967296) : (4294967295 - e).testBit i = (decide (i < 32) && !e.testBit i) := by
  have := Nat.testBit_two_pow_sub_succ (x := e) (n := 32) he i
  rw [show 4294967295 - e = 2 ^ 32 - (e + 1) by omega]
  exact this
theorem cho_or {e f g : Nat} (he : e < 4294967296) : (e &&& f) ||| ((4294967295 - e) &&& g) = cho e f g := by
  apply Nat.eq_of_testBit_eq
  intro i
  simp only [cho, Nat.testBit_or, Nat.testBit_xor, Nat.testBit_and, tb_com he]
  cases e.testBit i <;> cases f.testBit i <;> cases g.testBit i <;> simp
theorem maj_or (a b c : Nat) : (a &&& b) ||| (a &&& c) ||| (b &&& c) = maj a b c := by
  apply Nat.eq_of_testBit_eq
  intro i
  simp only [maj, Nat.testBit_or, Nat.testBit_xor, Nat.testBit_and]
  cases a.testBit i <;> cases b.testBit i <;> cases c.testBit i <;> rfl
end Go.Sx
