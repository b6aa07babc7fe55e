import Derived.Test.YtfmlpkeaiohknaaDoorMRCopy
import Derived.Test.YtfmlpkeaiohknaaDoorMFew
/-! The reference's Copy tells the same tree. -/
set_option linter.unusedVariables false
set_option linter.unusedSimpArgs false
namespace Go.Proofs.YtfmlpkeaiohknaaDoor.Q
open Go.RowKit Go.Proofs.YtfmlpkeaiohknaaDoorW.PrintWords Go.Proofs.YtfmlpkeaiohknaaDoorW.PrintLast Go.Proofs.YtfmlpkeaiohknaaDoorW.PrintMore
mutual
theorem rcopy_ev : ∀ (x : S24), nsz x ≤ 1000000 → Ev (fun k => scarfref05_Copy.f k x.f0 x.f1 x.f2 x.f3) (x.f0, x.f1, x.f2, x.f3)
  | ⟨a, b, c, l⟩, hn => by
    simp only [nsz] at hn
    have h := rcopyL_ev l [] a b c a b c (by simp; omega)
    exact Ev.step h
theorem rcopyL_ev : ∀ (r done : List S24) (a : Int) (b c : ByteArray) (a' : Int) (b' c' : ByteArray), done.length + nszL r ≤ 1000000 →
    Ev (fun k => scarfref05_Copy.l0 k (done.length : Int) a b c (done ++ r) a' b' c' done) (a', b', c', done ++ r)
  | [], done, a, b, c, a', b', c', hn => by
    refine Ev.step (Ev.of fun k => ?_)
    rw [scarfref05_Copy.l0, if_neg (by simp)]
    simp
  | y :: r, done, a, b, c, a', b', c', hn => by
    simp only [nszL] at hn
    have hp : 0 < nsz y := by have := pre_pos y; rwa [pre_len] at this
    have h := rcopyL_ev r (done ++ [y]) a b c a' b' c' (by simp; omega)
    have ey : (⟨y.f0, y.f1, y.f2, y.f3⟩ : S24) = y := by cases y; rfl
    refine Ev.step (Ev.congr (Ev.bind (rcopy_ev y (by omega)) (f := fun k bt389 => (if done.length < 2199023255552 then (scarfref05_Copy.l0 k ((done.length : Int) + 1) a b c (done ++ y :: r) a' b' c' (done ++ [(⟨bt389.1, bt389.2.1, bt389.2.2.1, bt389.2.2.2⟩ : S24)])) else (none))) (u := (a', b', c', done ++ y :: r)) ?_) fun k => ?_)
    · have h2 : Ev (fun k => scarfref05_Copy.l0 k ((done.length : Int) + 1) a b c (done ++ y :: r) a' b' c' (done ++ [y])) (a', b', c', done ++ y :: r) := by
        have e1 : done ++ [y] ++ r = done ++ y :: r := by simp
        rw [e1] at h
        exact Ev.congr h fun k => by simp
      refine Ev.congr h2 fun k => ?_
      simp only [ey]
      rw [if_pos (by omega)]
    · show scarfref05_Copy.l0 (k + 1) _ _ _ _ _ _ _ _ _ = _
      rw [scarfref05_Copy.l0, if_pos (by simp; omega), if_pos (by omega), rdT_at, w64 (by omega) (by omega)]
end
end Go.Proofs.YtfmlpkeaiohknaaDoor.Q
