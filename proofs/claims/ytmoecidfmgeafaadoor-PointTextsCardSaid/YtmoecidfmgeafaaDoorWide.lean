/- A load of many cells as one step: what stands in so many cells from a place on, if all are there. -/
import Derived.Test.YtmoecidfmgeafaaDoorWWords
import Derived.Deep.Draws
namespace Go.Proofs.YtmoecidfmgeafaaDoor.Wide
open Go.RowKit Go.Proofs.YtmoecidfmgeafaaDoorW.PrintWords
variable {P : Program}
/-- So many cells from the i-th behind a on, if all are there. -/
def cellsFrom (w : World) (a : Addr) : Nat → Nat → Option (List Value)
  | _, 0 => some []
  | i, n + 1 => (w.cell? (a.add i)).bind fun v => (cellsFrom w a (i + 1) n).map (v :: ·)
/-- So many cells from a on, if all are there. -/
def cellsAt (w : World) (a : Addr) (n : Nat) : Option (List Value) := cellsFrom w a 0 n
/-- The load itself, where it is not known that all are there. -/
def heavy (a : Addr) (n : Nat) : Sem (Array Value) := loadCellsFrom a 0 n #[]
theorem cf_step {w : World} {a : Addr} {i n : Nat} {v : Value} {l : List Value} (h : w.cell? (a.add i) = some v) (t : cellsFrom w a (i + 1) n = some l) : cellsFrom w a i (n + 1) = some (v :: l) := by
  simp [cellsFrom, h, t]
theorem run_from (w : World) (a : Addr) : ∀ (n i : Nat) (acc : Array Value) (l : List Value), cellsFrom w a i n = some l → (loadCellsFrom a i n acc).run P w = .ok (acc ++ l.toArray) w
  | 0, i, acc, l, h => by
    simp only [cellsFrom, Option.some.injEq] at h
    subst h
    simp [loadCellsFrom]
  | n + 1, i, acc, l, h => by
    simp only [cellsFrom] at h
    obtain ⟨v, hv, h⟩ := Option.bind_eq_some_iff.mp h
    obtain ⟨l', hl, rfl⟩ := Option.map_eq_some_iff.mp h
    have ih := run_from w a n (i + 1) (acc.push v) l' hl
    simp only [loadCellsFrom, Sem.run_bind, run_load, hv, Result.andThen, ih]
    simp
theorem run_wide (a : Addr) (n : Nat) (w : World) : (loadCellsFrom a 0 n #[]).run P w = match cellsAt w a n with | some l => .ok l.toArray w | none => (heavy a n).run P w := by
  cases h : cellsAt w a n with
  | none => rfl
  | some l => simpa using run_from (P := P) w a n 0 #[] l h
theorem cellsAt_drewN (w : World) (q : Nat) (a : Addr) (n : Nat) : cellsAt (w.drewN q) a n = cellsAt w a n := by
  have : ∀ n i, cellsFrom (w.drewN q) a i n = cellsFrom w a i n := by
    intro n
    induction n with
    | zero => intro i; rfl
    | succ n ih => intro i; simp [cellsFrom, ih]
  exact this n 0
theorem cellsAt_drew (w : World) (a : Addr) (n : Nat) : cellsAt w.drew a n = cellsAt w a n := by
  have : ∀ n i, cellsFrom w.drew a i n = cellsFrom w a i n := by
    intro n
    induction n with
    | zero => intro i; rfl
    | succ n ih => intro i; simp [cellsFrom, ih]
  exact this n 0
/-- The same, as the walk meets it first. -/
def heavy0 (a : Addr) (n : Nat) : Sem (Array Value) := loadCellsFrom a 0 n #[]
theorem hv32 (a : Addr) : loadCellsFrom a 0 32 #[] = heavy0 a 32 := rfl
theorem lw32 (a : Addr) (w : World) : (heavy0 a 32).run P w = match cellsAt w a 32 with | some l => .ok l.toArray w | none => (heavy a 32).run P w := run_wide a 32 w
theorem mk32 {w : World} {a : Addr} {v0 v1 v2 v3 v4 v5 v6 v7 v8 v9 v10 v11 v12 v13 v14 v15 v16 v17 v18 v19 v20 v21 v22 v23 v24 v25 v26 v27 v28 v29 v30 v31 : Value} (h0 : w.cell? a = some v0) (h1 : w.cell? ⟨a.block, a.off + 1, none⟩ = some v1) (h2 : w.cell? ⟨a.block, a.off + 2, none⟩ = some v2) (h3 : w.cell? ⟨a.block, a.off + 3, none⟩ = some v3) (h4 : w.cell? ⟨a.block, a.off + 4, none⟩ = some v4) (h5 : w.cell? ⟨a.block, a.off + 5, none⟩ = some v5) (h6 : w.cell? ⟨a.block, a.off + 6, none⟩ = some v6) (h7 : w.cell? ⟨a.block, a.off + 7, none⟩ = some v7) (h8 : w.cell? ⟨a.block, a.off + 8, none⟩ = some v8) (h9 : w.cell? ⟨a.block, a.off + 9, none⟩ = some v9) (h10 : w.cell? ⟨a.block, a.off + 10, none⟩ = some v10) (h11 : w.cell? ⟨a.block, a.off + 11, none⟩ = some v11) (h12 : w.cell? ⟨a.block, a.off + 12, none⟩ = some v12) (h13 : w.cell? ⟨a.block, a.off + 13, none⟩ = some v13) (h14 : w.cell? ⟨a.block, a.off + 14, none⟩ = some v14) (h15 : w.cell? ⟨a.block, a.off + 15, none⟩ = some v15) (h16 : w.cell? ⟨a.block, a.off + 16, none⟩ = some v16) (h17 : w.cell? ⟨a.block, a.off + 17, none⟩ = some v17) (h18 : w.cell? ⟨a.block, a.off + 18, none⟩ = some v18) (h19 : w.cell? ⟨a.block, a.off + 19, none⟩ = some v19) (h20 : w.cell? ⟨a.block, a.off + 20, none⟩ = some v20) (h21 : w.cell? ⟨a.block, a.off + 21, none⟩ = some v21) (h22 : w.cell? ⟨a.block, a.off + 22, none⟩ = some v22) (h23 : w.cell? ⟨a.block, a.off + 23, none⟩ = some v23) (h24 : w.cell? ⟨a.block, a.off + 24, none⟩ = some v24) (h25 : w.cell? ⟨a.block, a.off + 25, none⟩ = some v25) (h26 : w.cell? ⟨a.block, a.off + 26, none⟩ = some v26) (h27 : w.cell? ⟨a.block, a.off + 27, none⟩ = some v27) (h28 : w.cell? ⟨a.block, a.off + 28, none⟩ = some v28) (h29 : w.cell? ⟨a.block, a.off + 29, none⟩ = some v29) (h30 : w.cell? ⟨a.block, a.off + 30, none⟩ = some v30) (h31 : w.cell? ⟨a.block, a.off + 31, none⟩ = some v31) : cellsAt w a 32 = some [v0, v1, v2, v3, v4, v5, v6, v7, v8, v9, v10, v11, v12, v13, v14, v15, v16, v17, v18, v19, v20, v21, v22, v23, v24, v25, v26, v27, v28, v29, v30, v31] := (cf_step h0 (cf_step h1 (cf_step h2 (cf_step h3 (cf_step h4 (cf_step h5 (cf_step h6 (cf_step h7 (cf_step h8 (cf_step h9 (cf_step h10 (cf_step h11 (cf_step h12 (cf_step h13 (cf_step h14 (cf_step h15 (cf_step h16 (cf_step h17 (cf_step h18 (cf_step h19 (cf_step h20 (cf_step h21 (cf_step h22 (cf_step h23 (cf_step h24 (cf_step h25 (cf_step h26 (cf_step h27 (cf_step h28 (cf_step h29 (cf_step h30 (cf_step h31 rfl))))))))))))))))))))))))))))))))
theorem hv33 (a : Addr) : loadCellsFrom a 0 33 #[] = heavy0 a 33 := rfl
theorem lw33 (a : Addr) (w : World) : (heavy0 a 33).run P w = match cellsAt w a 33 with | some l => .ok l.toArray w | none => (heavy a 33).run P w := run_wide a 33 w
theorem mk33 {w : World} {a : Addr} {v0 v1 v2 v3 v4 v5 v6 v7 v8 v9 v10 v11 v12 v13 v14 v15 v16 v17 v18 v19 v20 v21 v22 v23 v24 v25 v26 v27 v28 v29 v30 v31 v32 : Value} (h0 : w.cell? a = some v0) (h1 : w.cell? ⟨a.block, a.off + 1, none⟩ = some v1) (h2 : w.cell? ⟨a.block, a.off + 2, none⟩ = some v2) (h3 : w.cell? ⟨a.block, a.off + 3, none⟩ = some v3) (h4 : w.cell? ⟨a.block, a.off + 4, none⟩ = some v4) (h5 : w.cell? ⟨a.block, a.off + 5, none⟩ = some v5) (h6 : w.cell? ⟨a.block, a.off + 6, none⟩ = some v6) (h7 : w.cell? ⟨a.block, a.off + 7, none⟩ = some v7) (h8 : w.cell? ⟨a.block, a.off + 8, none⟩ = some v8) (h9 : w.cell? ⟨a.block, a.off + 9, none⟩ = some v9) (h10 : w.cell? ⟨a.block, a.off + 10, none⟩ = some v10) (h11 : w.cell? ⟨a.block, a.off + 11, none⟩ = some v11) (h12 : w.cell? ⟨a.block, a.off + 12, none⟩ = some v12) (h13 : w.cell? ⟨a.block, a.off + 13, none⟩ = some v13) (h14 : w.cell? ⟨a.block, a.off + 14, none⟩ = some v14) (h15 : w.cell? ⟨a.block, a.off + 15, none⟩ = some v15) (h16 : w.cell? ⟨a.block, a.off + 16, none⟩ = some v16) (h17 : w.cell? ⟨a.block, a.off + 17, none⟩ = some v17) (h18 : w.cell? ⟨a.block, a.off + 18, none⟩ = some v18) (h19 : w.cell? ⟨a.block, a.off + 19, none⟩ = some v19) (h20 : w.cell? ⟨a.block, a.off + 20, none⟩ = some v20) (h21 : w.cell? ⟨a.block, a.off + 21, none⟩ = some v21) (h22 : w.cell? ⟨a.block, a.off + 22, none⟩ = some v22) (h23 : w.cell? ⟨a.block, a.off + 23, none⟩ = some v23) (h24 : w.cell? ⟨a.block, a.off + 24, none⟩ = some v24) (h25 : w.cell? ⟨a.block, a.off + 25, none⟩ = some v25) (h26 : w.cell? ⟨a.block, a.off + 26, none⟩ = some v26) (h27 : w.cell? ⟨a.block, a.off + 27, none⟩ = some v27) (h28 : w.cell? ⟨a.block, a.off + 28, none⟩ = some v28) (h29 : w.cell? ⟨a.block, a.off + 29, none⟩ = some v29) (h30 : w.cell? ⟨a.block, a.off + 30, none⟩ = some v30) (h31 : w.cell? ⟨a.block, a.off + 31, none⟩ = some v31) (h32 : w.cell? ⟨a.block, a.off + 32, none⟩ = some v32) : cellsAt w a 33 = some [v0, v1, v2, v3, v4, v5, v6, v7, v8, v9, v10, v11, v12, v13, v14, v15, v16, v17, v18, v19, v20, v21, v22, v23, v24, v25, v26, v27, v28, v29, v30, v31, v32] := (cf_step h0 (cf_step h1 (cf_step h2 (cf_step h3 (cf_step h4 (cf_step h5 (cf_step h6 (cf_step h7 (cf_step h8 (cf_step h9 (cf_step h10 (cf_step h11 (cf_step h12 (cf_step h13 (cf_step h14 (cf_step h15 (cf_step h16 (cf_step h17 (cf_step h18 (cf_step h19 (cf_step h20 (cf_step h21 (cf_step h22 (cf_step h23 (cf_step h24 (cf_step h25 (cf_step h26 (cf_step h27 (cf_step h28 (cf_step h29 (cf_step h30 (cf_step h31 (cf_step h32 rfl)))))))))))))))))))))))))))))))))
end Go.Proofs.YtmoecidfmgeafaaDoor.Wide
