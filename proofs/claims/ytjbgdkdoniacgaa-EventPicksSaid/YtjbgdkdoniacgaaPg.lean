/- Walks, written by gen.py off the translation's own print: each says what the Go function comes to. -/
import Derived.Test.YtjbgdkdoniacgaaPe
import Derived.Test.YtjbgdkdoniacgaaSc
set_option linter.unusedVariables false
set_option linter.unusedSimpArgs false
namespace Go.Proofs.Ytjbgdkdoniacgaa
open Go.Sx Go.RowKit
attribute [local irreducible] Ac Ex WL WC WX WP Gives

/- slices.Index[[]uint8,uint8] -/
theorem idx8_ok (w : World) (A : Option Addr) (c : Nat) (l : List UInt8) (k : Nat) (hr : Rd w A (bytesV l)) (hb : l.length ≤ 1000000) :
    Gives Try.prog 27 #[.slice A l.length c, .int .u8 (k : Int)] w fun u w1 => ∃ z : Int, u = .int .i64 z ∧ (0 ≤ z ↔ k ∈ l.map UInt8.toNat) ∧ Keep nof w w1 := by
  have M0 := Mem.start w nof
  refine Gives.enter (n := 19) Try.func27 rfl Try.ntmps27 rfl (env := [(0, .slice A l.length c), (1, .int .u8 (k : Int))]) rfl ?_
  refine WC.seq ?_
  refine WC.region ?_
  refine WL.ex rfl rfl rfl (Ex.asg rfl) ?_
  refine WL.nil ?_
  refine WX.next (?_)
  refine WC.seq ?_
  refine WC.seq ?_
  refine WC.region ?_
  refine WL.ex rfl rfl rfl (Ex.mv rfl) ?_
  refine WL.ex rfl rfl rfl (Ex.len Try.underlying25 rfl) ?_
  refine WL.ex rfl rfl rfl (Ex.mv rfl) ?_
  refine WL.nil ?_
  refine WX.next (?_)
  refine WC.block ?_
  refine WC.loop (σ := Nat) (fun i => [(0, .slice A l.length c), (1, .int .u8 (k : Int)), (7, .int .i64 (l.length : Int)), (8, .int .i64 (i : Int))]) (fun i wr => i ≤ l.length ∧ k ∉ (l.take i).map UInt8.toNat ∧ Mem w wr nof []) (fun i => l.length - i) (0) ?_ (.cons rfl (.cons rfl (.cons rfl (.cons rfl (.nil))))) ?_
  · exact ⟨by omega, by simp, M0⟩
  rintro i w5 ⟨hi, hn, M5⟩
  refine WC.seq ?_
  refine WC.region ?_
  refine WL.ex rfl rfl rfl (Ex.lss rfl rfl) ?_
  refine WL.nil ?_
  refine WX.next (?_)
  refine WC.seq ?_
  refine WC.cond_dec rfl (fun hc9 => ?_) (fun hc9 => ?_)
  · obtain ⟨b, hbi⟩ : ∃ b, l[i]? = some b := ⟨_, List.getElem?_eq_getElem (by omega)⟩
    obtain ⟨b0, o0, hA, _⟩ := hr.plain (by rw [bytesV_length]; omega)
    subst hA
    refine WC.skip ?_
    refine WX.next (?_)
    refine WC.seq ?_
    refine WC.block ?_
    refine WC.seq ?_
    refine WC.region ?_
    refine WL.ex rfl rfl rfl (Ex.mv rfl) ?_
    refine WL.ex rfl rfl rfl (Ex.asg rfl) ?_
    refine WL.nil ?_
    refine WX.next (?_)
    refine WC.seq ?_
    refine WC.region ?_
    refine WL.ex rfl rfl rfl (Ex.mv rfl) ?_
    refine WL.ex rfl rfl rfl (Ex.mv rfl) ?_
    refine WL.ex rfl rfl rfl (Ex.mv rfl) ?_
    refine WL.ex rfl rfl rfl (Ex.ia Try.underlying25 sz5 rfl rfl ⟨by omega, by omega⟩) ?_
    refine WL.ex rfl rfl rfl (Ex.load ty5 rfl (by have hq := (M5.rd hr).at1 (bytesV_get hbi); simpa using hq)) ?_
    refine WL.ex rfl rfl rfl (Ex.eqI rfl rfl) ?_
    refine WL.nil ?_
    refine WX.next (?_)
    refine WC.cond_dec rfl (fun h16 => ?_) (fun h16 => ?_)
    · have hm : k ∈ l.map UInt8.toNat := List.mem_map.2 ⟨b, List.mem_of_getElem? hbi, by omega⟩
      have hz : (0 ≤ (i : Int)) ↔ k ∈ l.map UInt8.toNat := ⟨fun _ => hm, fun _ => by omega⟩
      refine WC.seq ?_
      refine WC.region ?_
      refine WL.ex rfl rfl rfl (Ex.mv rfl) ?_
      refine WL.ex rfl rfl rfl (Ex.asg rfl) ?_
      refine WL.nil ?_
      refine WX.next (?_)
      refine WC.ret ?_
      refine WX.ret_block (WX.ret_then (WX.ret_then (WX.ret_block (WX.ret_then (?_)))))
      refine WX.ret1 rfl rfl ?_
      exact ⟨_, rfl, hz, M5.keep⟩
    · have hne : k ≠ b.toNat := by omega
      refine WC.skip ?_
      refine WX.normal_block (WX.next (?_))
      refine WC.region ?_
      refine WL.ex rfl rfl rfl (Ex.add rfl rfl (i64w _ (by omega) (by omega))) ?_
      refine WL.ex rfl rfl rfl (Ex.mv rfl) ?_
      refine WL.nil ?_
      refine WX.again (i + 1) ?_ ?_ (.cons rfl (.cons rfl (.cons rfl (.cons rfl (.nil)))))
      · (try dsimp only); omega
      · refine ⟨by omega, ?_, M5⟩
        rw [take_snoc hbi, List.map_append]
        intro h
        rcases List.mem_append.1 h with h | h
        · exact hn h
        · exact hne (by simpa using h)
  · obtain rfl : i = l.length := by omega
    rw [List.take_length] at hn
    have hz : (0 ≤ (-1 : Int)) ↔ k ∈ l.map UInt8.toNat := ⟨fun h => by omega, fun h => absurd h hn⟩
    refine WC.exit ?_
    refine WX.exit_then (WX.exit_then (WX.exit_block (WX.next (?_))))
    refine WC.seq ?_
    refine WC.region ?_
    refine WL.ex rfl rfl rfl (Ex.asg rfl) ?_
    refine WL.nil ?_
    refine WX.next (?_)
    refine WC.ret ?_
    refine WX.ret1 rfl rfl ?_
    exact ⟨_, rfl, hz, M5.keep⟩

/- slices.Contains[[]uint8,uint8] -/
theorem has8_ok (w : World) (A : Option Addr) (c : Nat) (l : List UInt8) (k : Nat) (hr : Rd w A (bytesV l)) (hb : l.length ≤ 1000000) :
    Gives Try.prog 14 #[.slice A l.length c, .int .u8 (k : Int)] w fun u w1 => u = .bool (decide (k ∈ l.map UInt8.toNat)) ∧ Keep nof w w1 := by
  have M0 := Mem.start w nof
  refine Gives.enter (n := 9) Try.func14 rfl Try.ntmps14 rfl (env := [(0, .slice A l.length c), (1, .int .u8 (k : Int))]) rfl ?_
  refine WC.seq ?_
  refine WC.region ?_
  refine WL.ex rfl rfl rfl (Ex.asg rfl) ?_
  refine WL.nil ?_
  refine WX.next (?_)
  refine WC.seq ?_
  refine WC.region ?_
  refine WL.ex rfl rfl rfl (Ex.mv rfl) ?_
  refine WL.ex rfl rfl rfl (Ex.mv rfl) ?_
  refine WL.ac rfl rfl rfl (Ac.call rfl Try.func27 nm27 rfl (idx8_ok w A c l k (M0.rd hr) hb)) ?_; rintro v4 w4 ⟨z, rfl, hz, K4⟩
  have M4 := M0.step K4
  refine WL.ex rfl rfl rfl (Ex.geq rfl rfl) ?_
  rw [show decide (z ≥ 0) = decide (k ∈ l.map UInt8.toNat) from decide_eq_decide.2 hz]
  refine WL.ex rfl rfl rfl (Ex.asg rfl) ?_
  refine WL.nil ?_
  refine WX.next (?_)
  refine WC.ret ?_
  refine WX.ret1 rfl rfl ?_
  exact ⟨rfl, M4.keep⟩

/-- What isn't picked. -/
def outP (id : List UInt8) (ks : List UInt8) (t : Ev) : Bool := !decide (t.id = id) || !decide (t.k ∈ ks.map UInt8.toNat)
abbrev dl (p : Ev → Bool) (es : List Ev) : List Ev := es.filter fun t => !p t
def fW (p : Ev → Bool) (es : List Ev) : Nat := (es.takeWhile fun t => !p t).length
abbrev PredV (fv : Value) (S : World → Prop) (p : Ev → Bool) : Prop := ∀ (w' : World) (t : Ev), S w' → EvOk t → CallV Try.prog fv w' [.agg (evC t).toArray] fun u w2 => u = .bool (p t) ∧ Keep nof w' w2
theorem fW_none {p : Ev → Bool} : ∀ {es : List Ev}, (∀ t ∈ es, p t = false) → fW p es = es.length
  | [], _ => rfl
  | e :: es, h => by
    have h1 := fW_none (p := p) (es := es) (fun t ht => h t (by simp [ht]))
    simp only [fW] at h1
    simp [fW, List.takeWhile_cons, h e (by simp), h1]
theorem fW_hit {p : Ev → Bool} : ∀ {es : List Ev} {i : Nat} {t : Ev}, es[i]? = some t → p t = true → (∀ s ∈ es.take i, p s = false) → fW p es = i
  | [], i, t, h, _, _ => by simp at h
  | e :: es, 0, t, h, hp, _ => by
    obtain rfl : e = t := by simpa using h
    simp [fW, List.takeWhile_cons, hp]
  | e :: es, i + 1, t, h, hp, hn => by
    have he : p e = false := hn e (by simp)
    have := fW_hit (p := p) (es := es) (i := i) (by simpa using h) hp (fun s hs => hn s (by simp [hs]))
    simp only [fW] at this
    simp [fW, List.takeWhile_cons, he, this]
theorem fW_le (p : Ev → Bool) (es : List Ev) : fW p es ≤ es.length := (List.takeWhile_prefix _).length_le
theorem dl_none {p : Ev → Bool} : ∀ {es : List Ev}, fW p es = es.length → dl p es = es
  | [], _ => rfl
  | e :: es, h => by
    by_cases he : p e = true
    · simp [fW, List.takeWhile_cons, he] at h
    · have he : p e = false := by simpa using he
      have h1 : fW p es = es.length := by simpa [fW, List.takeWhile_cons, he] using h
      simp [dl, he, dl_none h1]
theorem dl_take {p : Ev → Bool} {es : List Ev} (h : fW p es < es.length) : dl p (es.take (fW p es + 1)) = es.take (fW p es) := by
  induction es with
  | nil => simp at h
  | cons e es ih =>
    by_cases he : p e = true
    · have h0 : fW p (e :: es) = 0 := by simp [fW, List.takeWhile_cons, he]
      rw [h0]
      simp [dl, he]
    · have he : p e = false := by simpa using he
      have h0 : fW p (e :: es) = fW p es + 1 := by simp [fW, List.takeWhile_cons, he]
      rw [h0] at h ⊢
      have := ih (by simpa using h)
      simp only [List.take_succ_cons]
      rw [show dl p (e :: es.take (fW p es + 1)) = e :: dl p (es.take (fW p es + 1)) by simp [dl, he], this]
theorem dl_len (p : Ev → Bool) (es : List Ev) : (dl p es).length ≤ es.length := List.length_filter_le _ _
theorem flat_at2 {α : Type} {C : α → List Value} {k i o : Nat} {l : List α} {a : α} {ys : List Value} (hk : ∀ a ∈ l, (C a).length = k) (ha : l[i]? = some a) (ho : o = i * k) : ((l.flatMap C ++ ys).drop o).take k = C a := by
  have h1 := flat_at hk ha ho
  have hlen : (C a).length = k := hk a (List.mem_of_getElem? ha)
  have h2 : k ≤ ((l.flatMap C).drop o).length := by
    have := congrArg List.length h1
    rw [List.length_take, hlen] at this
    omega
  rcases Nat.eq_zero_or_pos k with h0 | h0
  · rw [h0, List.take_zero]
    rw [h0] at hlen
    exact (List.length_eq_zero_iff.1 hlen).symm
  · rw [List.drop_append_of_le_length (by rw [List.length_drop] at h2; omega), List.take_append_of_le_length h2, h1]
theorem splice_app {l ys vs : List Value} {o : Nat} (h : o + vs.length ≤ l.length) : splice (l ++ ys) o vs = splice l o vs ++ ys := by
  simp only [splice]
  rw [List.take_append_of_le_length (by omega), List.drop_append_of_le_length h, List.append_assoc, List.append_assoc, List.append_assoc]
theorem keep_set {ks es : List Ev} {t : Ev} (h : ks.length < es.length) : (ks ++ es.drop ks.length).set ks.length t = (ks ++ [t]) ++ es.drop (ks ++ [t]).length := by
  rw [List.set_append_right _ _ (Nat.le_refl _), Nat.sub_self, List.drop_eq_getElem_cons h, List.set_cons_zero, List.length_append, List.length_singleton, List.append_assoc]
  rfl
theorem keep_get {ks es : List Ev} {t : Ev} {j : Nat} (h : ks.length ≤ j) (ht : es[j]? = some t) : (ks ++ es.drop ks.length)[j]? = some t := by
  rw [List.getElem?_append_right h, List.getElem?_drop, Nat.add_sub_cancel' h]
  exact ht
theorem mem_rowblk {w0 w : World} {F : Nat → Prop} {rs : List Res} (M : Mem w0 w F rs) {i n c sz : Nat} {A : Option Addr} {e : TypeId} {xs : List Value} (hi : rs[i]? = some (row (.slice A n c) e sz n xs)) (hn : 0 < n) :
    ∃ g ys, A = some ⟨g, 0, none⟩ ∧ n ≤ c ∧ c ≤ maxLen ∧ xs.length = n * sz ∧ (xs ++ ys).length = c * sz ∧ Mem w0 w F (rs.set i (blk g (xs ++ ys) e)) := by
  have hs := M.get hi
  have h1 := hs.1
  rcases hs.2 with ⟨hv, h0⟩ | ⟨g, cap, cur, hv, hb, hg, hnc, hcm, hsz, hcur⟩
  · omega
  · simp only [Value.slice.injEq] at hv
    obtain ⟨rfl, _, rfl⟩ := hv
    refine ⟨g, cur.toList.drop (n * sz), rfl, hnc, hcm, h1, ?_, ?_⟩
    · have h2 : xs ++ cur.toList.drop (n * sz) = cur.toList := by
        rw [← List.take_append_drop (n * sz) cur.toList]
        congr 1
        · simpa using hcur.symm
        · simp
      rw [h2]
      simpa using hsz
    · refine M.turn hi (Keep.refl _ _) ?_ (fun b hb => .inl hb)
      have h2 : xs ++ cur.toList.drop (n * sz) = cur.toList := by
        rw [← List.take_append_drop (n * sz) cur.toList]
        congr 1
        · simpa using hcur.symm
        · simp
      show w.heap[g]? = _
      rw [h2]
      simpa using hg
theorem blk_row2 {w : World} {g n c sz : Nat} {l : List Value} {e : TypeId} (h : (blk g l e).sat w) (hl : l.length = c * sz) (hnc : n ≤ c) (hc : c ≤ maxLen) : (row (.slice (some ⟨g, 0, none⟩) n c) e sz n (l.take (n * sz))).sat w :=
  ⟨by rw [List.length_take, hl]; exact Nat.min_eq_left (Nat.mul_le_mul_right _ hnc), .inr ⟨g, c, l.toArray, rfl, Nat.zero_le _, h, hnc, hc, by simpa using hl, by simp⟩⟩
theorem mem_blkrow {w0 w : World} {F : Nat → Prop} {rs : List Res} (M : Mem w0 w F rs) {i g n c sz : Nat} {l : List Value} {e : TypeId} (hi : rs[i]? = some (blk g l e)) (hl : l.length = c * sz) (hnc : n ≤ c) (hc : c ≤ maxLen) : Mem w0 w F (rs.set i (row (.slice (some ⟨g, 0, none⟩) n c) e sz n (l.take (n * sz)))) :=
  M.turn hi (Keep.refl _ _) (blk_row2 (M.get hi) hl hnc hc) (fun b hb => .inl hb)
theorem acClr {P : Program} {n : Nat} {env : Env} {w0 w : World} {F : Nat → Prop} {rs : List Res} {dst : Option Nat} {ty : TypeId} {pos : String} {aft : Array Edge} {gd : Option (Nat × Bool)} (M : Mem w0 w F rs) {t e : TypeId} {i b o k c : Nat} {x : Operand} {l zs : List Value} {e' : TypeId}
    (ht : P.underlying t = some (.slice e)) (hz : (P.info? e).bind (fun i => i.zero.map Value.cells) = some zs.toArray) (hx : ev env x = some (.slice (some ⟨b, o, none⟩) k c)) (h1 : ∀ u ∈ zs, u.oneCell' = true) (hi : rs[i]? = some (blk b l e')) (ho : o + k * zs.length ≤ l.length) :
    Ac P n env (Oper.mk dst (.call { callee := .builtin .clear, args := #[x], argTypes := #[t] }) ty pos aft gd) w fun _ w' => ∃ l', l'.length = l.length ∧ l'.take o = l.take o ∧ Keep (· ∈ [b]) w w' ∧ Mem w0 w' F (rs.set i (blk b l' e')) :=
  Ac.of_run fun a ha => by
    obtain ⟨iF, hiF, h2⟩ := Option.bind_eq_some_iff.1 hz
    obtain ⟨z, hz1, hz2⟩ := Option.map_eq_some_iff.1 h2
    cases k with
    | zero => exact ⟨.tuple #[], w, by simp [execOp, resolve, invoke, builtin, ha.eval hx, Builtin.clear_, run_underlying ht], l, rfl, rfl, Keep.refl _ _, M.turn hi (Keep.refl _ _) (M.get hi) (fun b hb => .inl hb)⟩
    | succ k =>
      have hb' : w.heap[b]? = some (.cells l.toArray e' (0, 0)) := M.get hi
      have hlen : (Builtin.zeroCells zs.toArray (k + 1)).toList.length = (k + 1) * zs.length := by simp [Builtin.zeroCells]
      have hmem : ∀ u ∈ (Builtin.zeroCells zs.toArray (k + 1)).toList, u.oneCell' = true := by
        intro u hu
        simp only [Builtin.zeroCells, Array.toList_map, List.mem_map] at hu
        obtain ⟨j, hj, rfl⟩ := hu
        have hj' : j < (k + 1) * zs.length := by simpa using hj
        have hpos : 0 < zs.length := by
          rcases Nat.eq_zero_or_pos zs.length with h | h
          · rw [h] at hj'; omega
          · exact h
        have hm : j % zs.length < zs.length := Nat.mod_lt _ hpos
        have he : zs.toArray[j % zs.toArray.size]! = zs[j % zs.length] := by simp [hm]
        rw [he]
        exact h1 _ (List.getElem_mem _)
      have h := run_storeCells_at P b o e' (Builtin.zeroCells zs.toArray (k + 1)).toList 0 l.toArray w hb' (by rw [hlen]; simpa using ho) hmem
      simp only [Nat.add_zero] at h
      refine ⟨.tuple #[], w.setRow b (splice l o (Builtin.zeroCells zs.toArray (k + 1)).toList).toArray, ?_, splice l o (Builtin.zeroCells zs.toArray (k + 1)).toList, splice_length (by rw [hlen]; exact ho), ?_, keep_setRow _, M.setRow hi⟩
      · simp [execOp, resolve, invoke, builtin, ha.eval hx, Builtin.clear_, run_underlying ht, zeroValue, typeInfo, hiF, hz1, hz2, h, splice]
      · have hol : o ≤ l.length := by omega
        simp [splice, List.take_append_of_le_length, hol]

end Go.Proofs.Ytjbgdkdoniacgaa
