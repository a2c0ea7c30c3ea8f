/- Walks, written by gen.py off the translation's own print: each says what the Go function comes to. -/
import Derived.Test.YtfncnpnjhcaphaaDoorFa
import Derived.Test.YtfncnpnjhcaphaaDoorExt
set_option linter.unusedVariables false
set_option linter.unusedSimpArgs false
namespace Go.Proofs.YtfncnpnjhcaphaaDoor
open Go.Sx Go.RowKit
attribute [local irreducible] Ac Ex WL WC WX WP Gives sha

def hexL : List UInt8 := [48, 49, 50, 51, 52, 53, 54, 55, 56, 57, 97, 98, 99, 100, 101, 102]
def hd (n : Nat) : UInt8 := hexL.getD n 0
def hexS (l : List UInt8) : List UInt8 := l.flatMap fun b => [hd (b.toNat / 16), hd (b.toNat % 16)]
theorem hexS_len (l : List UInt8) : (hexS l).length = 2 * l.length := by
  induction l with
  | nil => rfl
  | cons b r ih =>
    have e : hexS (b :: r) = [hd (b.toNat / 16), hd (b.toNat % 16)] ++ hexS r := rfl
    rw [e, List.length_append, ih, List.length_cons]
    simp only [List.length_cons, List.length_nil]
    omega
theorem hexS_snoc {l : List UInt8} {i : Nat} {b : UInt8} (h : l[i]? = some b) : hexS (l.take (i + 1)) = hexS (l.take i) ++ [hd (b.toNat / 16), hd (b.toNat % 16)] := by
  rw [take_snoc h]
  simp [hexS]
theorem hd_get {n : Nat} (h : n < 16) : hexL[n]? = some (hd n) := by
  rw [hd, List.getD, List.getElem?_eq_getElem (show n < hexL.length from h)]
  rfl
theorem hd_all : ∀ n, n < 16 → (hd n).toNat < 128 ∧ (hd n).toNat ≤ 102 ∧ 48 ≤ (hd n).toNat ∧ (97 ≤ (hd n).toNat → (hd n).toNat - 97 + 10 = n) ∧ (¬ 97 ≤ (hd n).toNat → (hd n).toNat - 48 = n) := by decide
theorem hexS_get : ∀ {l : List UInt8} {p : Nat} {b : UInt8}, l[p / 2]? = some b → (hexS l)[p]? = some (hd (if p % 2 = 1 then b.toNat % 16 else b.toNat / 16))
  | [], p, b, h => by simp at h
  | x :: r, 0, b, h => by
    obtain rfl : x = b := by simpa using h
    rfl
  | x :: r, 1, b, h => by
    obtain rfl : x = b := by simpa using h
    rfl
  | x :: r, p + 2, b, h => by
    have e : hexS (x :: r) = [hd (x.toNat / 16), hd (x.toNat % 16)] ++ hexS r := rfl
    have e2 : (p + 2) / 2 = p / 2 + 1 := by omega
    have e3 : (p + 2) % 2 = p % 2 := by omega
    rw [e2] at h
    rw [e, List.getElem?_append_right (by simp), e3]
    exact hexS_get (l := r) (by simpa using h)
theorem hexS_lt {l : List UInt8} : ∀ c ∈ hexS l, c.toNat < 128 := by
  intro c hc
  obtain ⟨b, _, h⟩ := List.mem_flatMap.1 hc
  have hb := b.toNat_lt
  simp only [List.mem_cons, List.not_mem_nil, or_false] at h
  rcases h with rfl | rfl
  · exact (hd_all _ (by omega)).1
  · exact (hd_all _ (by omega)).1
theorem i64quoN (x n : Nat) (h : 0 < n) (hx : x < 9223372036854775808) : IntKind.i64.wrap ((x : Int).tdiv (n : Int)) = ((x / n : Nat) : Int) := by
  rw [show ((x : Int).tdiv n) = ((x / n : Nat) : Int) from (Int.ofNat_tdiv x n).symm]
  have h2 := Nat.div_le_self x n
  generalize x / n = q at h2 ⊢
  exact i64w _ (by omega) (by omega)
theorem u8quoN (x n : Nat) (hx : x < 256) : IntKind.u8.wrap ((x : Int).tdiv (n : Int)) = ((x / n : Nat) : Int) := by
  rw [show ((x : Int).tdiv n) = ((x / n : Nat) : Int) from (Int.ofNat_tdiv x n).symm]
  have h2 := Nat.div_le_self x n
  generalize x / n = q at h2 ⊢
  exact u8w_lt _ (by omega)
theorem tmodN (x n : Nat) : (x : Int).tmod (n : Int) = ((x % n : Nat) : Int) := (Int.ofNat_tmod x n).symm

/- sponsion/digest.Hex -/
theorem hex_ok (w : World) (a : List UInt8) (ha : H32 a) :
    Gives Tryd.prog 19 #[.agg (bytesV a).toArray] w fun u w1 => u = str (hexS a) ∧ Keep nof w w1 := by
  have M0 := Mem.start w nof
  have ha0 : a.length = 32 := ha
  refine Gives.enter (n := 23) Tryd.func19 rfl Tryd.ntmps19 rfl (env := [(0, .agg (bytesV a).toArray)]) rfl ?_
  refine WC.seq ?_
  refine WC.region ?_
  refine WL.ac rfl rfl rfl (Ac.box M0 rfl rfl) ?_; rintro v1 w1 ⟨ga, rfl, hg1, K1, M1⟩
  refine WL.ex rfl rfl rfl (Ex.asg rfl) ?_
  refine WL.nil ?_
  refine WX.next (?_)
  refine WC.seq ?_
  refine WC.region ?_
  refine WL.ac rfl rfl rfl (Ac.mk0 M1 el22 rfl rfl rfl (m := 64) rfl (by decide) (by decide)) ?_; rintro v3 w3 ⟨gh, rfl, hg3, K3, M3⟩
  refine WL.ex rfl rfl rfl (Ex.asg rfl) ?_
  refine WL.nil ?_
  refine WX.next (?_)
  refine WC.seq ?_
  refine WC.seq ?_
  refine WC.region ?_
  refine WL.ex rfl rfl rfl (Ex.loadA ty25 rfl (h32_len (by first | assumption | exact h32_0)) (M3.rdw (i := 1) rfl)) ?_
  refine WL.ex rfl rfl rfl (Ex.mv rfl) ?_
  refine WL.nil ?_
  refine WX.next (?_)
  refine WC.block ?_
  refine WC.loop (σ := Nat × Value) (fun s => [(3, s.2), (7, .agg (bytesV a).toArray), (8, .int .i64 (s.1 : Int))]) (fun s wr => s.1 ≤ 32 ∧ Mem w wr nof [row s.2 5 1 (2 * s.1) (bytesV (hexS (a.take s.1)))]) (fun s => 32 - s.1) (((0, .slice (some ⟨gh, 0, none⟩) 0 64) : Nat × Value)) ?_ (.cons rfl (.cons rfl (.cons rfl (.nil)))) ?_
  · exact ⟨by simp, (Mem.sub M3 (.cons_cons _ (List.nil_sublist _)))⟩
  rintro ⟨i, v⟩ w7 ⟨hi, M7⟩
  dsimp only at hi M7
  refine WC.sub (env' := [(3, v), (7, .agg (bytesV a).toArray), (8, .int .i64 (i : Int))]) (.cons rfl (.cons rfl (.cons rfl (.nil)))) ?_
  refine WC.seq ?_
  refine WC.region ?_
  refine WL.ex rfl rfl rfl (Ex.lss rfl rfl) ?_
  refine WL.nil ?_
  refine WX.next (?_)
  refine WC.seq ?_
  refine WC.cond_dec rfl (fun hc9 => ?_) (fun hc9 => ?_)
  · obtain ⟨b, hab⟩ : ∃ x, a[i]? = some x := ⟨_, List.getElem?_eq_getElem (by omega)⟩
    have hbl := b.toNat_lt
    refine WC.skip ?_
    refine WX.next (?_)
    refine WC.seq ?_
    refine WC.block ?_
    refine WC.seq ?_
    refine WC.region ?_
    refine WL.ex rfl rfl rfl (Ex.ixA (v := byteV b) Tryd.underlying25 ty5 rfl rfl ⟨by omega, by omega⟩ (by simp [bytesV_get hab])) ?_
    refine WL.ex rfl rfl rfl (Ex.asg rfl) ?_
    refine WL.nil ?_
    refine WX.next (?_)
    refine WC.draw (Keep nof w7.drew) [7, 8] (.one 0 0 (.one 1 0 (.one 2 0 (.one 3 0 (.one 4 0 (.one 5 0 (.one 6 0 (.one 7 2 (.one 8 2 (.one 9 0 .nil)))))))))) mixed (by kernel_rfl) (by kernel_rfl) (by kernel_rfl) (HQ.block (HQ.then_ (HQ.then_ (HQ.block (HQ.then_ HQ.body))))) ?_
    obtain ⟨w11, hw11⟩ : ∃ v, v = w7.drew := ⟨_, rfl⟩
    have D11 : Keep nof w7 w11 := by rw [hw11]; exact Keep.drew _ _
    have M11 := M7.step D11
    rw [← hw11]; clear hw11
    refine WP.p rfl rfl rfl rfl (fun _ => Ex.mv rfl) ?_
    refine WP.p rfl rfl rfl rfl (fun _ => Ex.mv rfl) ?_
    refine WP.p rfl rfl rfl rfl (fun _ => Ex.quo rfl rfl (by decide) (c := ((b.toNat / 16 : Nat) : Int)) (u8quoN _ 16 hbl)) ?_
    refine WP.p rfl rfl rfl rfl (fun _ => Ex.ixS Tryd.underlying9 (l := hexL) rfl rfl (by omega) (b := hd (b.toNat / 16)) (by rw [Int.toNat_natCast]; exact hd_get (by omega))) ?_
    refine WP.p rfl rfl rfl rfl (fun _ => Ex.mv rfl) ?_
    refine WP.p rfl rfl rfl rfl (fun _ => Ex.rem rfl rfl (by decide) (c := ((b.toNat % 16 : Nat) : Int)) (tmodN _ 16)) ?_
    refine WP.p rfl rfl rfl rfl (fun _ => Ex.ixS Tryd.underlying9 (l := hexL) rfl rfl (by omega) (b := hd (b.toNat % 16)) (by rw [Int.toNat_natCast]; exact hd_get (by omega))) ?_
    refine WP.a rfl rfl rfl rfl (Ac.bs M11 (parts := [(0, .tmp 14), (1, .tmp 17)]) (l := bytesV [hd (b.toNat / 16), hd (b.toNat % 16)]) rfl rfl (LitS.ones el22 (bytesV [hd (b.toNat / 16), hd (b.toNat % 16)]) (by simp [bytesV, byteV, Value.cells]) (by simp))) ?_; rintro v19 w19 ⟨gp, rfl, hg19, K19, M19⟩; refine .inl ⟨rfl, Keep nof w19, ?_⟩
    refine WP.a rfl rfl rfl rfl (Ac.app M19 el22 rfl rfl (i := 1) rfl (by simp) (M19.rdw (i := 0) rfl) (bytesV_one _) (by omega) (by unfold maxLen; omega)) ?_; rintro v20 w20 ⟨K20, M20⟩; refine .inl ⟨rfl, Keep nof w20, ?_⟩
    try dsimp only [List.set] at M20
    rw [← bytesV_append, ← hexS_snoc hab, show 2 * i + 2 = 2 * (i + 1) by omega] at M20
    obtain ⟨vb, rfl⟩ : ∃ vb, vb = v20 := ⟨_, rfl⟩
    refine WP.p rfl rfl rfl rfl (fun _ => Ex.asg rfl) ?_
    refine WP.nil ?_
    refine WX.normal_block (WX.next (?_))
    refine WC.region ?_
    refine WL.ex rfl rfl rfl (Ex.add rfl rfl (i64w _ (by omega) (by omega))) ?_
    refine WL.ex rfl rfl rfl (Ex.mv rfl) ?_
    refine WL.nil ?_
    refine WX.again (((i + 1, vb) : Nat × Value)) ?_ ?_ (.cons rfl (.cons rfl (.cons rfl (.nil))))
    · (try dsimp only); omega
    · refine ⟨by dsimp only; omega, ?_⟩
      have Me := (Mem.sub M20 (.cons _ (.refl _)))
      exact Me
  · obtain rfl : i = 32 := by omega
    rw [List.take_of_length_le (show a.length ≤ 32 by omega)] at M7
    obtain ⟨Ah, ch, rfl⟩ := own_slice (M7.get (i := 0) rfl)
    refine WC.exit ?_
    refine WX.exit_then (WX.exit_then (WX.exit_block (WX.next (?_))))
    refine WC.seq ?_
    refine WC.region ?_
    refine WL.ex rfl rfl rfl (Ex.mv rfl) ?_
    refine WL.ex rfl rfl rfl (Ex.cvBSn Tryd.underlying22 Tryd.underlying5 Tryd.underlying9 rfl (by rw [hexS_len, ha0]) (M7.rdr (i := 0) rfl)) ?_
    refine WL.ex rfl rfl rfl (Ex.asg rfl) ?_
    refine WL.nil ?_
    refine WX.next (?_)
    refine WC.ret ?_
    refine WX.ret1 rfl rfl ?_
    exact ⟨rfl, M7.keep⟩

/- sponsion/sponsionlaw05.DigestHex -/
theorem digestHex_walk (w : World) (a : List UInt8) (ha : H32 a) (hT : Tabs w) :
    Gives Tryd.prog 6 #[.agg (bytesV a).toArray] w fun u w1 => u = .bool true ∧ Keep nof w w1 := by
  have M0 := Mem.start w nof
  have ha0 : a.length = 32 := ha
  obtain ⟨X, hX⟩ : ∃ X, X = hexS a := ⟨_, rfl⟩
  have hXl : X.length = 64 := by rw [hX, hexS_len, ha0]
  have hX1 : ∀ c ∈ X, c.toNat < 128 := by rw [hX]; exact hexS_lt
  refine Gives.enter (n := 58) Tryd.func6 rfl Tryd.ntmps6 rfl (env := [(0, .agg (bytesV a).toArray)]) rfl ?_
  refine WC.seq ?_
  refine WC.region ?_
  refine WL.ac rfl rfl rfl (Ac.box M0 rfl rfl) ?_; rintro v1 w1 ⟨ga, rfl, hg1, K1, M1⟩
  refine WL.ex rfl rfl rfl (Ex.asg rfl) ?_
  refine WL.nil ?_
  refine WX.next (?_)
  refine WC.seq ?_
  refine WC.seq ?_
  refine WC.region ?_
  refine WL.ac rfl rfl rfl (Ac.call rfl Tryd.func12 nm12 rfl (lives05_ok w1 (hT.keep M1.keep))) ?_; rintro v3 w3 ⟨rfl, K3⟩
  have M3 := M1.step K3
  refine WL.ex rfl rfl rfl (Ex.not rfl) ?_
  refine WL.nil ?_
  refine WX.next (?_)
  refine WC.no rfl ?_
  refine WC.skip ?_
  refine WX.next (?_)
  refine WC.seq ?_
  refine WC.region ?_
  refine WL.ex rfl rfl rfl (Ex.loadA ty25 rfl (h32_len (by first | assumption | exact h32_0)) (M3.rdw (i := 0) rfl)) ?_
  refine WL.ac rfl rfl rfl (Ac.call rfl Tryd.func19 nm19 rfl (hex_ok w3 _ ha)) ?_; rintro v6 w6 ⟨rfl, K6⟩
  rw [← hX]
  have M6 := M3.step K6
  refine WL.ex rfl rfl rfl (Ex.asg rfl) ?_
  refine WL.nil ?_
  refine WX.next (?_)
  refine WC.seq ?_
  refine WC.seq ?_
  refine WC.region ?_
  refine WL.ex rfl rfl rfl (Ex.mv rfl) ?_
  refine WL.ex rfl rfl rfl (Ex.lenS Tryd.underlying9 rfl) ?_
  refine WL.ex rfl rfl rfl (Ex.neI rfl rfl) ?_
  refine WL.nil ?_
  refine WX.next (?_)
  
  refine WC.no (congrArg (fun b => some (Value.bool b)) (show (!decide ((X.length : Int) = 64)) = false by rw [hXl]; rfl)) ?_
  refine WC.skip ?_
  refine WX.next (?_)
  refine WC.seq ?_
  refine WC.seq ?_
  refine WC.region ?_
  refine WL.ex rfl rfl rfl (Ex.mv rfl) ?_
  refine WL.ac rfl rfl rfl (Ac.rangeS M6 Tryd.underlying9 rfl) ?_; rintro v12 w12 ⟨gk, rfl, hg12, K12, M12⟩
  refine WL.nil ?_
  refine WX.next (?_)
  refine WC.block ?_
  refine WC.loop (σ := Nat) (fun p => [(1, .pointer (some ⟨ga, 0, none⟩)), (3, str X), (15, .pointer (some ⟨gk, 0, none⟩))]) (fun p wr => p ≤ 64 ∧ Mem w wr nof [itR gk X p, blk ga (bytesV a) 25]) (fun p => 64 - p) (0) ?_ (.cons rfl (.cons rfl (.cons rfl (.nil)))) ?_
  · exact ⟨by omega, M12⟩
  rintro p w13 ⟨hi, M13⟩
  refine WC.seq ?_
  refine WC.region ?_
  refine WL.ac rfl rfl rfl (Ac.nextU M13 rfl (i := 0) rfl hX1) ?_; rintro v14 w14 ⟨rfl, K14, M14⟩
  try dsimp only [List.set] at M14
  by_cases hp : p < X.length
  · rw [if_pos hp] at M14 ⊢
    obtain ⟨b, hab⟩ : ∃ x, a[p / 2]? = some x := ⟨_, List.getElem?_eq_getElem (by omega)⟩
    have hbl := b.toNat_lt
    have hXc := hexS_get hab
    rw [← hX] at hXc
    obtain ⟨N, hN⟩ : ∃ N, N = if p % 2 = 1 then b.toNat % 16 else b.toNat / 16 := ⟨_, rfl⟩
    rw [← hN] at hXc
    have hN16 : N < 16 := by rw [hN]; split <;> omega
    obtain ⟨_, hd2, hd3, hd4, hd5⟩ := hd_all N hN16
    refine WL.ex rfl rfl rfl (Ex.ext rfl rfl) ?_
    refine WL.nil ?_
    refine WX.next (?_)
    refine WC.seq ?_
    
    refine WC.yes rfl ?_
    refine WC.skip ?_
    refine WX.next (?_)
    refine WC.block ?_
    refine WC.seq ?_
    refine WC.region ?_
    refine WL.ex rfl rfl rfl (Ex.ext rfl rfl) ?_
    refine WL.ex rfl rfl rfl (Ex.asg rfl) ?_
    refine WL.nil ?_
    refine WX.next (?_)
    refine WC.seq ?_
    refine WC.region ?_
    refine WL.ex rfl rfl rfl (Ex.mv rfl) ?_
    refine WL.ex rfl rfl rfl (Ex.mv rfl) ?_
    refine WL.ex rfl rfl rfl (Ex.ixS Tryd.underlying9 rfl rfl (by omega) (b := hd N) (by rw [Int.toNat_natCast]; exact hXc)) ?_
    refine WL.ex rfl rfl rfl (Ex.cvI Tryd.underlying5 Tryd.underlying3 rfl (i64w _ (by omega) (by omega))) ?_
    refine WL.ex rfl rfl rfl (Ex.sub rfl rfl (i64w _ (by omega) (by omega))) ?_
    refine WL.ex rfl rfl rfl (Ex.asg rfl) ?_
    refine WL.nil ?_
    refine WX.next (?_)
    refine WC.seq ?_
    refine WC.seq ?_
    refine WC.region ?_
    refine WL.ex rfl rfl rfl (Ex.mv rfl) ?_
    refine WL.ex rfl rfl rfl (Ex.mv rfl) ?_
    refine WL.ex rfl rfl rfl (Ex.ixS Tryd.underlying9 rfl rfl (by omega) (b := hd N) (by rw [Int.toNat_natCast]; exact hXc)) ?_
    refine WL.ex rfl rfl rfl (Ex.geq rfl rfl) ?_
    refine WL.nil ?_
    refine WX.next (?_)
    refine WC.cond_dec rfl (fun h97 => ?_) (fun h97 => ?_)
    · have hv : ((hd N).toNat : Int) - 97 + 10 = N := by have := hd4 (by omega); omega
      refine WC.region ?_
      refine WL.ex rfl rfl rfl (Ex.mv rfl) ?_
      refine WL.ex rfl rfl rfl (Ex.mv rfl) ?_
      refine WL.ex rfl rfl rfl (Ex.ixS Tryd.underlying9 rfl rfl (by omega) (b := hd N) (by rw [Int.toNat_natCast]; exact hXc)) ?_
      refine WL.ex rfl rfl rfl (Ex.cvI Tryd.underlying5 Tryd.underlying3 rfl (i64w _ (by omega) (by omega))) ?_
      refine WL.ex rfl rfl rfl (Ex.sub rfl rfl (i64w _ (by omega) (by omega))) ?_
      refine WL.ex rfl rfl rfl (Ex.add rfl rfl (i64w _ (by omega) (by omega))) ?_
      refine WL.ex rfl rfl rfl (Ex.asg rfl) ?_
      refine WL.nil ?_
      refine WX.next (?_)
      refine WC.seq ?_
      refine WC.region ?_
      refine WL.ex rfl rfl rfl (Ex.mv rfl) ?_
      refine WL.ex rfl rfl rfl (Ex.quo rfl rfl (by decide) (c := ((p / 2 : Nat) : Int)) (i64quoN _ 2 (by decide) (by omega))) ?_
      refine WL.ex rfl rfl rfl (Ex.iaA Tryd.underlying25 sz5 rfl rfl ⟨by omega, by omega⟩) ?_
      refine WL.ex rfl rfl rfl (Ex.load ty5 rfl (M14.cell (i := 1) (v := byteV b) rfl (by simp only [Int.toNat_natCast, Nat.mul_one, Nat.zero_add]; exact bytesV_get hab))) ?_
      refine WL.ex rfl rfl rfl (Ex.cvI Tryd.underlying5 Tryd.underlying3 rfl (i64w _ (by omega) (by omega))) ?_
      refine WL.ex rfl rfl rfl (Ex.quo rfl rfl (by decide) (c := ((b.toNat / 16 : Nat) : Int)) (i64quoN _ 16 (by decide) (by omega))) ?_
      refine WL.ex rfl rfl rfl (Ex.asg rfl) ?_
      refine WL.nil ?_
      refine WX.next (?_)
      refine WC.seq ?_
      refine WC.seq ?_
      refine WC.region ?_
      refine WL.ex rfl rfl rfl (Ex.mv rfl) ?_
      refine WL.ex rfl rfl rfl (Ex.rem rfl rfl (by decide) (c := ((p % 2 : Nat) : Int)) (tmodN _ 2)) ?_
      refine WL.ex rfl rfl rfl (Ex.eqI rfl rfl) ?_
      refine WL.nil ?_
      refine WX.next (?_)
      refine WC.cond_dec rfl (fun hodd => ?_) (fun hodd => ?_)
      · have hNv : N = b.toNat % 16 := by rw [hN, if_pos (by omega)]
        refine WC.region ?_
        refine WL.ex rfl rfl rfl (Ex.mv rfl) ?_
        refine WL.ex rfl rfl rfl (Ex.quo rfl rfl (by decide) (c := ((p / 2 : Nat) : Int)) (i64quoN _ 2 (by decide) (by omega))) ?_
        refine WL.ex rfl rfl rfl (Ex.iaA Tryd.underlying25 sz5 rfl rfl ⟨by omega, by omega⟩) ?_
        refine WL.ex rfl rfl rfl (Ex.load ty5 rfl (M14.cell (i := 1) (v := byteV b) rfl (by simp only [Int.toNat_natCast, Nat.mul_one, Nat.zero_add]; exact bytesV_get hab))) ?_
        refine WL.ex rfl rfl rfl (Ex.cvI Tryd.underlying5 Tryd.underlying3 rfl (i64w _ (by omega) (by omega))) ?_
        refine WL.ex rfl rfl rfl (Ex.rem rfl rfl (by decide) (c := ((b.toNat % 16 : Nat) : Int)) (tmodN _ 16)) ?_
        refine WL.ex rfl rfl rfl (Ex.asg rfl) ?_
        refine WL.nil ?_
        refine WX.next (?_)
        refine WC.seq ?_
        refine WC.region ?_
        refine WL.ex rfl rfl rfl (Ex.mv rfl) ?_
        refine WL.ex rfl rfl rfl (Ex.mv rfl) ?_
        refine WL.ex rfl rfl rfl (Ex.neI rfl rfl) ?_
        rw [hv, ← hNv, show (!decide ((N : Int) = (N : Int))) = false by simp]
        refine WL.ex rfl rfl rfl (Ex.mv rfl) ?_
        refine WL.yes rfl rfl rfl rfl ?_
        refine WL.ex rfl rfl rfl (Ex.mv rfl) ?_
        refine WL.yes rfl rfl rfl rfl ?_
        refine WL.ex rfl rfl rfl (Ex.mv rfl) ?_
        refine WL.yes rfl rfl rfl rfl ?_
        refine WL.ex rfl rfl rfl (Ex.ixS Tryd.underlying9 rfl rfl (by omega) (b := hd N) (by rw [Int.toNat_natCast]; exact hXc)) ?_
        refine WL.yes rfl rfl rfl rfl ?_
        refine WL.ex rfl rfl rfl (Ex.gtr rfl rfl) ?_
        rw [decide_eq_false (show ¬ (102 : Int) < ((hd N).toNat : Int) by omega)]
        refine WL.ex rfl rfl rfl (Ex.pickF rfl rfl) ?_
        refine WL.nil ?_
        refine WX.next (?_)
        refine WC.no rfl ?_
        refine WC.skip ?_
        refine WX.normal_block (?_)
        refine WX.again (p + 1) ?_ ?_ (.cons rfl (.cons rfl (.cons rfl (.nil))))
        · (try dsimp only); omega
        · exact ⟨by omega, M14⟩
      · have hNv : N = b.toNat / 16 := by rw [hN, if_neg (by omega)]
        refine WC.skip ?_
        refine WX.next (?_)
        refine WC.seq ?_
        refine WC.region ?_
        refine WL.ex rfl rfl rfl (Ex.mv rfl) ?_
        refine WL.ex rfl rfl rfl (Ex.mv rfl) ?_
        refine WL.ex rfl rfl rfl (Ex.neI rfl rfl) ?_
        rw [hv, ← hNv, show (!decide ((N : Int) = (N : Int))) = false by simp]
        refine WL.ex rfl rfl rfl (Ex.mv rfl) ?_
        refine WL.yes rfl rfl rfl rfl ?_
        refine WL.ex rfl rfl rfl (Ex.mv rfl) ?_
        refine WL.yes rfl rfl rfl rfl ?_
        refine WL.ex rfl rfl rfl (Ex.mv rfl) ?_
        refine WL.yes rfl rfl rfl rfl ?_
        refine WL.ex rfl rfl rfl (Ex.ixS Tryd.underlying9 rfl rfl (by omega) (b := hd N) (by rw [Int.toNat_natCast]; exact hXc)) ?_
        refine WL.yes rfl rfl rfl rfl ?_
        refine WL.ex rfl rfl rfl (Ex.gtr rfl rfl) ?_
        rw [decide_eq_false (show ¬ (102 : Int) < ((hd N).toNat : Int) by omega)]
        refine WL.ex rfl rfl rfl (Ex.pickF rfl rfl) ?_
        refine WL.nil ?_
        refine WX.next (?_)
        refine WC.no rfl ?_
        refine WC.skip ?_
        refine WX.normal_block (?_)
        refine WX.again (p + 1) ?_ ?_ (.cons rfl (.cons rfl (.cons rfl (.nil))))
        · (try dsimp only); omega
        · exact ⟨by omega, M14⟩
    · have hv : ((hd N).toNat : Int) - 48 = N := by have := hd5 (by omega); omega
      refine WC.skip ?_
      refine WX.next (?_)
      refine WC.seq ?_
      refine WC.region ?_
      refine WL.ex rfl rfl rfl (Ex.mv rfl) ?_
      refine WL.ex rfl rfl rfl (Ex.quo rfl rfl (by decide) (c := ((p / 2 : Nat) : Int)) (i64quoN _ 2 (by decide) (by omega))) ?_
      refine WL.ex rfl rfl rfl (Ex.iaA Tryd.underlying25 sz5 rfl rfl ⟨by omega, by omega⟩) ?_
      refine WL.ex rfl rfl rfl (Ex.load ty5 rfl (M14.cell (i := 1) (v := byteV b) rfl (by simp only [Int.toNat_natCast, Nat.mul_one, Nat.zero_add]; exact bytesV_get hab))) ?_
      refine WL.ex rfl rfl rfl (Ex.cvI Tryd.underlying5 Tryd.underlying3 rfl (i64w _ (by omega) (by omega))) ?_
      refine WL.ex rfl rfl rfl (Ex.quo rfl rfl (by decide) (c := ((b.toNat / 16 : Nat) : Int)) (i64quoN _ 16 (by decide) (by omega))) ?_
      refine WL.ex rfl rfl rfl (Ex.asg rfl) ?_
      refine WL.nil ?_
      refine WX.next (?_)
      refine WC.seq ?_
      refine WC.seq ?_
      refine WC.region ?_
      refine WL.ex rfl rfl rfl (Ex.mv rfl) ?_
      refine WL.ex rfl rfl rfl (Ex.rem rfl rfl (by decide) (c := ((p % 2 : Nat) : Int)) (tmodN _ 2)) ?_
      refine WL.ex rfl rfl rfl (Ex.eqI rfl rfl) ?_
      refine WL.nil ?_
      refine WX.next (?_)
      refine WC.cond_dec rfl (fun hodd => ?_) (fun hodd => ?_)
      · have hNv : N = b.toNat % 16 := by rw [hN, if_pos (by omega)]
        refine WC.region ?_
        refine WL.ex rfl rfl rfl (Ex.mv rfl) ?_
        refine WL.ex rfl rfl rfl (Ex.quo rfl rfl (by decide) (c := ((p / 2 : Nat) : Int)) (i64quoN _ 2 (by decide) (by omega))) ?_
        refine WL.ex rfl rfl rfl (Ex.iaA Tryd.underlying25 sz5 rfl rfl ⟨by omega, by omega⟩) ?_
        refine WL.ex rfl rfl rfl (Ex.load ty5 rfl (M14.cell (i := 1) (v := byteV b) rfl (by simp only [Int.toNat_natCast, Nat.mul_one, Nat.zero_add]; exact bytesV_get hab))) ?_
        refine WL.ex rfl rfl rfl (Ex.cvI Tryd.underlying5 Tryd.underlying3 rfl (i64w _ (by omega) (by omega))) ?_
        refine WL.ex rfl rfl rfl (Ex.rem rfl rfl (by decide) (c := ((b.toNat % 16 : Nat) : Int)) (tmodN _ 16)) ?_
        refine WL.ex rfl rfl rfl (Ex.asg rfl) ?_
        refine WL.nil ?_
        refine WX.next (?_)
        refine WC.seq ?_
        refine WC.region ?_
        refine WL.ex rfl rfl rfl (Ex.mv rfl) ?_
        refine WL.ex rfl rfl rfl (Ex.mv rfl) ?_
        refine WL.ex rfl rfl rfl (Ex.neI rfl rfl) ?_
        rw [hv, ← hNv, show (!decide ((N : Int) = (N : Int))) = false by simp]
        refine WL.ex rfl rfl rfl (Ex.mv rfl) ?_
        refine WL.yes rfl rfl rfl rfl ?_
        refine WL.ex rfl rfl rfl (Ex.mv rfl) ?_
        refine WL.yes rfl rfl rfl rfl ?_
        refine WL.ex rfl rfl rfl (Ex.mv rfl) ?_
        refine WL.yes rfl rfl rfl rfl ?_
        refine WL.ex rfl rfl rfl (Ex.ixS Tryd.underlying9 rfl rfl (by omega) (b := hd N) (by rw [Int.toNat_natCast]; exact hXc)) ?_
        refine WL.yes rfl rfl rfl rfl ?_
        refine WL.ex rfl rfl rfl (Ex.gtr rfl rfl) ?_
        rw [decide_eq_false (show ¬ (102 : Int) < ((hd N).toNat : Int) by omega)]
        refine WL.ex rfl rfl rfl (Ex.pickF rfl rfl) ?_
        refine WL.nil ?_
        refine WX.next (?_)
        refine WC.no rfl ?_
        refine WC.skip ?_
        refine WX.normal_block (?_)
        refine WX.again (p + 1) ?_ ?_ (.cons rfl (.cons rfl (.cons rfl (.nil))))
        · (try dsimp only); omega
        · exact ⟨by omega, M14⟩
      · have hNv : N = b.toNat / 16 := by rw [hN, if_neg (by omega)]
        refine WC.skip ?_
        refine WX.next (?_)
        refine WC.seq ?_
        refine WC.region ?_
        refine WL.ex rfl rfl rfl (Ex.mv rfl) ?_
        refine WL.ex rfl rfl rfl (Ex.mv rfl) ?_
        refine WL.ex rfl rfl rfl (Ex.neI rfl rfl) ?_
        rw [hv, ← hNv, show (!decide ((N : Int) = (N : Int))) = false by simp]
        refine WL.ex rfl rfl rfl (Ex.mv rfl) ?_
        refine WL.yes rfl rfl rfl rfl ?_
        refine WL.ex rfl rfl rfl (Ex.mv rfl) ?_
        refine WL.yes rfl rfl rfl rfl ?_
        refine WL.ex rfl rfl rfl (Ex.mv rfl) ?_
        refine WL.yes rfl rfl rfl rfl ?_
        refine WL.ex rfl rfl rfl (Ex.ixS Tryd.underlying9 rfl rfl (by omega) (b := hd N) (by rw [Int.toNat_natCast]; exact hXc)) ?_
        refine WL.yes rfl rfl rfl rfl ?_
        refine WL.ex rfl rfl rfl (Ex.gtr rfl rfl) ?_
        rw [decide_eq_false (show ¬ (102 : Int) < ((hd N).toNat : Int) by omega)]
        refine WL.ex rfl rfl rfl (Ex.pickF rfl rfl) ?_
        refine WL.nil ?_
        refine WX.next (?_)
        refine WC.no rfl ?_
        refine WC.skip ?_
        refine WX.normal_block (?_)
        refine WX.again (p + 1) ?_ ?_ (.cons rfl (.cons rfl (.cons rfl (.nil))))
        · (try dsimp only); omega
        · exact ⟨by omega, M14⟩
  · rw [if_neg hp] at M14 ⊢
    refine WL.ex rfl rfl rfl (Ex.ext rfl rfl) ?_
    refine WL.nil ?_
    refine WX.next (?_)
    refine WC.seq ?_
    
    refine WC.no rfl ?_
    refine WC.exit ?_
    refine WX.exit_then (WX.exit_then (WX.exit_block (WX.next (?_))))
    refine WC.seq ?_
    refine WC.region ?_
    refine WL.ex rfl rfl rfl (Ex.asg rfl) ?_
    refine WL.nil ?_
    refine WX.next (?_)
    refine WC.ret ?_
    refine WX.ret1 rfl rfl ?_
    exact ⟨rfl, M14.keep⟩

end Go.Proofs.YtfncnpnjhcaphaaDoor
