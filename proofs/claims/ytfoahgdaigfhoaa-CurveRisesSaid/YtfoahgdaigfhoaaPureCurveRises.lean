/- CurveRises: a line never falls; First is the first height at which it has a rate: the pure statement, for every input. -/
import Derived.Test.YtfoahgdaigfhoaaCurL
import Derived.Test.YtfoahgdaigfhoaaQCurx5
namespace Go.Proofs.Ytfoahgdaigfhoaa.Pure
open Go Go.RowKit Go.Proofs.Ytfoahgdaigfhoaa.QCur Go.Proofs.Ytfoahgdaigfhoaa.CurL Go.Proofs.Ytfoahgdaigfhoaa.Flt Go.Proofs.Ytfoahgdaigfhoaa.FltL Go.Proofs.YtfoahgdaigfhoaaW.PrintWords Go.Proofs.YtfoahgdaigfhoaaW.PrintLast Go.Proofs.YtfoahgdaigfhoaaW.PrintMore
/-- What is known of the first height that was met. -/
def Met1 (f l t h r : Int) (first x : Int) : Prop := (first = -1 ∧ ∀ z, 0 ≤ z → z < x → atV f l t h z < r) ∨ (0 ≤ first ∧ first < x ∧ r ≤ atV f l t h first ∧ ∀ z, 0 ≤ z → z < first → atV f l t h z < r)
theorem rises_end (m : Nat) {f wd l mo r at_ : Int} (y : lineB f l (f + wd) (l + mo) = true) (hf : f ≤ 1000) (hw : wd ≤ 200) (first x : Int) (hx : x = f + wd + 4) (h1 : Met1 f l (f + wd) (l + mo) r first x) :
    coraclelaw16_CurveRises.l0 (m + 22) f wd l mo r at_ (l + mo) first x (C (2 * f) (2 * l)) (C (2 * (f + wd)) (2 * (l + mo))) = some true := by
  have hb := lineB_true.1 y
  unfold coraclelaw16_CurveRises.l0
  rw [w64 (n := f + wd) (by omega) (by omega), w64 (n := f + wd + 3) (by omega) (by omega), w64 (n := l + mo) (by omega) (by omega), if_neg (by omega)]
  obtain ⟨n, hn, hc⟩ := first_f y r m
  have e : n = first := by
    rcases hc with ⟨e1, q1⟩ | ⟨a, b, c, d⟩
    · rcases h1 with ⟨e2, _⟩ | ⟨a2, b2, c2, d2⟩
      · rw [e1, e2]
      · have := q1 first a2 (by omega); omega
    · rcases h1 with ⟨e2, q2⟩ | ⟨a2, b2, c2, d2⟩
      · by_cases g : n < x
        · have := q2 n a g; omega
        · have z := q2 (f + wd) (by omega) (by omega)
          have v1 : atV f l (f + wd) (l + mo) (f + wd) = l + mo := by unfold atV; rw [if_neg (by omega), if_pos (by omega)]
          have v2 := atV_bounds y n
          omega
      · rcases Int.lt_trichotomy n first with g | g | g
        · have := d2 n a g; omega
        · exact g
        · have := d first a2 g; omega
  rw [hn, e, awake_f m]
  simp only [Option.bind_some, if_true]
  by_cases g : at_ < f + wd
  · rw [if_pos g]
  · rw [if_neg g, at_f y]
    have v1 : atV f l (f + wd) (l + mo) at_ = l + mo := by unfold atV; rw [if_neg (by omega), if_pos (by omega)]
    simp [v1]
theorem rises_l {f wd l mo r at_ : Int} (y : lineB f l (f + wd) (l + mo) = true) (hf : f ≤ 1000) (hw : wd ≤ 200) : ∀ (d k : Nat) (last first x : Int), 0 ≤ x → x + d = f + wd + 4 → d + 22 ≤ k →
    (∀ z, x ≤ z → last ≤ atV f l (f + wd) (l + mo) z) → (0 < x → last = atV f l (f + wd) (l + mo) (x - 1)) → Met1 f l (f + wd) (l + mo) r first x →
    coraclelaw16_CurveRises.l0 k f wd l mo r at_ last first x (C (2 * f) (2 * l)) (C (2 * (f + wd)) (2 * (l + mo))) = some true := by
  have hb := lineB_true.1 y
  intro d
  induction d with
  | zero =>
    intro k last first x h0 hx hk _ hl hm
    obtain ⟨m, rfl⟩ : ∃ m, k = m + 22 := ⟨k - 22, by omega⟩
    have v1 : atV f l (f + wd) (l + mo) (x - 1) = l + mo := by unfold atV; rw [if_neg (by omega), if_pos (by omega)]
    rw [hl (by omega), v1]
    exact rises_end m y hf hw first x (by omega) hm
  | succ d ih =>
    intro k last first x h0 hx hk hle hl hm
    obtain ⟨k, rfl⟩ : ∃ m, k = m + 1 := ⟨k - 1, by omega⟩
    have w1 : wrap64 (x + 1) = x + 1 := w64 (by omega) (by omega)
    have go := fun fi hfi => ih k (atV f l (f + wd) (l + mo) x) fi (x + 1) (by omega) (by omega) (by omega) (fun z hz => atV_mono y (by omega)) (fun _ => by rw [show x + 1 - 1 = x by omega]) hfi
    conv => lhs; unfold coraclelaw16_CurveRises.l0
    rw [w64 (n := f + wd) (by omega) (by omega), w64 (n := f + wd + 3) (by omega) (by omega), if_pos (by omega), at_f y, w1]
    simp only [Option.bind_some]
    have := hle x (Int.le_refl _)
    rw [if_neg (by omega)]
    rcases hm with ⟨e, q⟩ | ⟨a, b, c, q⟩
    · subst e
      rw [if_pos (by omega)]
      by_cases g : atV f l (f + wd) (l + mo) x ≥ r
      · rw [if_pos g]
        exact go x (.inr ⟨h0, by omega, g, q⟩)
      · rw [if_neg g]
        refine go (-1) (.inl ⟨rfl, fun z z0 z1 => ?_⟩)
        by_cases e : z = x
        · subst e; omega
        · exact q z z0 (by omega)
    · rw [if_neg (by omega)]
      exact go first (.inr ⟨a, by omega, c, q⟩)
theorem CurveRises : coraclelaw16_CurveRises.Pure := by
  intro f wd l mo r at_ _ _ _ _ _ _
  refine ⟨2000, ?_⟩
  have out : coraclelaw16_CurveRises.j0 2000 f wd l mo r at_ true = some true := by
    simp only [coraclelaw16_CurveRises.j0]
    rw [awake_f 1978]; rfl
  unfold coraclelaw16_CurveRises.f
  by_cases h1 : f < 0
  · rw [if_pos h1]; exact out
  · rw [if_neg h1]
    by_cases h2 : f > 1000
    · rw [if_pos h2]; exact out
    · rw [if_neg h2]
      by_cases h3 : wd < 0
      · rw [if_pos h3]; exact out
      · rw [if_neg h3]
        by_cases h4 : wd > 200
        · rw [if_pos h4]; exact out
        · rw [if_neg h4]
          by_cases h5 : l < 253
          · rw [if_pos h5]; exact out
          · rw [if_neg h5]
            by_cases h6 : l > 1048576
            · rw [if_pos h6]; exact out
            · rw [if_neg h6]
              by_cases h7 : mo < 0
              · rw [if_pos h7]; exact out
              · rw [if_neg h7]
                by_cases h8 : mo > 1048576
                · rw [decide_eq_true h8]; exact out
                · rw [decide_eq_false h8]
                  have y : lineB f l (f + wd) (l + mo) = true := lineB_true.2 (by omega)
                  simp only [coraclelaw16_CurveRises.j0]
                  rw [if_neg (by simp), w64 (n := f + wd) (by omega) (by omega), w64 (n := l + mo) (by omega) (by omega), i_f f (by omega) (by omega), i_f l (by omega) (by omega), i_f (f + wd) (by omega) (by omega), i_f (l + mo) (by omega) (by omega)]
                  have hl : curve_Line.f (⟨G (2 * f), G (2 * l)⟩ : C128) (⟨G (2 * (f + wd)), G (2 * (l + mo))⟩ : C128) = some (C (2 * f) (2 * l), C (2 * (f + wd)) (2 * (l + mo)), 0) := line_in y
                  rw [hl]
                  simp only [Option.bind_some, if_true]
                  refine rises_l y (by omega) (by omega) (f + wd + 4).toNat 1999 0 (-1) 0 (Int.le_refl _) (by omega) (by omega) (fun z _ => ?_) (fun h => by omega) (.inl ⟨rfl, fun z a b => by omega⟩)
                  have := atV_bounds y z
                  omega
end Go.Proofs.Ytfoahgdaigfhoaa.Pure
