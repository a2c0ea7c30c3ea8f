/- Walks, written by gen.py off the translation's own print: each says what the Go function comes to. -/
import Derived.Test.YtjbgdkdoniacgaaPi
set_option linter.unusedVariables false
set_option linter.unusedSimpArgs false
namespace Go.Proofs.Ytjbgdkdoniacgaa
open Go.Sx Go.RowKit
attribute [local irreducible] Ac Ex WL WC WX WP Gives

/- sponsion/event.Of -/
theorem eOf_ok (w : World) (A : Option Addr) (c : Nat) (es : List Ev) (id : List UInt8) (B : Option Addr) (d : Nat) (ks : List UInt8) (hr : RdE w A es) (hb : es.length ≤ 1000000) (hI : id.length = 32) (hk : Rd w B (bytesV ks)) (hb2 : ks.length ≤ 1000000) :
    Gives Try.prog 6 #[.slice A es.length c, .agg (bytesV id).toArray, .slice B ks.length d] w fun u w1 => New w w1 (row u 45 47 (dl (outP id ks) es).length ((dl (outP id ks) es).flatMap evC)) := by
  have M0 := Mem.start w nof
  refine Gives.enter (n := 11) Try.func6 rfl Try.ntmps6 rfl (env := [(0, .slice A es.length c), (1, .agg (bytesV id).toArray), (2, .slice B ks.length d)]) rfl ?_
  refine WC.seq ?_
  refine WC.region ?_
  refine WL.ac rfl rfl rfl (Ac.box M0 (l := bytesV id) rfl rfl) ?_; rintro v1 w1 ⟨gi, rfl, hg1, K1, M1⟩
  refine WL.ac rfl rfl rfl (Ac.box M1 (l := [.slice B ks.length d]) rfl rfl) ?_; rintro v2 w2 ⟨gk, rfl, hg2, K2, M2⟩
  refine WL.ex rfl rfl rfl (Ex.asg rfl) ?_
  refine WL.nil ?_
  refine WX.next (?_)
  refine WC.seq ?_
  refine WC.region ?_
  refine WL.ex rfl rfl rfl (Ex.mv rfl) ?_
  refine WL.ac rfl rfl rfl (Ac.call rfl Try.func12 nm12 rfl (cloneE_ok w2 A c es (hr.keep M2.keep) hb)) ?_; rintro v5 w5 N5
  have M5 := M2.new N5
  obtain ⟨As, cs, rfl⟩ := own_slice (M5.get (i := 0) rfl)
  refine WL.ex rfl rfl rfl (Ex.mkf (f' := []) (c' := [.pointer (some ⟨gi, 0, none⟩), .pointer (some ⟨gk, 0, none⟩)]) rfl rfl) ?_
  refine WL.ac rfl rfl rfl (Ac.call rfl Try.func11 nm11 rfl (del_ok w5 As cs es _ (outP id ks) (M5.get (i := 0) rfl) hr.ok hb (fun w' t K ht => ⟨_, _, [], [.pointer (some ⟨gi, 0, none⟩), .pointer (some ⟨gk, 0, none⟩)], rfl, Try.func13, by kernel_rfl, rfl, of1_ok w' gi gk t id B d ks ht hI ((M5.rdw (i := 2) rfl).keep K (fun a ha => by injection ha with ha; subst ha; exact M5.apart (i := 2) (j := 0) rfl rfl (by decide) gi (by simp [blk]))) (K.cell (M5.cell (i := 1) (v := .slice B ks.length d) rfl rfl) (M5.apart (i := 1) (j := 0) rfl rfl (by decide) gk (by simp [blk]))) (M5.old (i := 0) rfl hk K) hb2⟩))) ?_; rintro v7 w7 T7
  have M7 := M5.turned (i := 0) rfl T7
  try dsimp only [List.set] at M7
  refine WL.ex rfl rfl rfl (Ex.asg rfl) ?_
  refine WL.nil ?_
  refine WX.next (?_)
  refine WC.ret ?_
  refine WX.ret1 rfl rfl ?_
  exact M7.toNew

end Go.Proofs.Ytjbgdkdoniacgaa
