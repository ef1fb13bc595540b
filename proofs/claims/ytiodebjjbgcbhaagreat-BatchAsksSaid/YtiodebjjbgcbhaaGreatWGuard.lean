import Derived.Test.YtiodebjjbgcbhaaGreatWWords
namespace Go.Proofs.YtiodebjjbgcbhaaGreatW.PrintWords
open Go.RowKit
namespace Kd
section
variable {α : Type} {n : Nat} {d : Kd α} {hs : 0 < d.sz} {w : World} {base : Nat} {ok : Nat → Prop} {xs : List α} {cs : List Value}
end
section
variable {α : Type} {n : Nat} {enc : α → Value} {h1 : ∀ x, (enc x).oneCell' = true} {hs : 0 < (scalar enc h1).sz} {w : World} {base : Nat} {ok : Nat → Prop} {xs : List α} {cs : List Value}
end
end Kd
end Go.Proofs.YtiodebjjbgcbhaaGreatW.PrintWords
namespace Go.Proofs.YtiodebjjbgcbhaaGreat.Wide
open Go.RowKit Go.Proofs YtiodebjjbgcbhaaGreatW.PrintWords
variable {P : Program}
def cellsFrom (w : World) (a : Addr) : Nat → Nat → Option (List Value)
 | _, 0 => some []
 | i, n + 1 => (w.cell? (a.add i)).bind fun v => (cellsFrom w a (i + 1) n).map (v :: ·)
def cellsAt (w : World) (a : Addr) (n : Nat) : Option (List Value) := cellsFrom w a 0 n
def heavy (a : Addr) (n : Nat) : Sem (Array Value) := loadCellsFrom a 0 n #[]
theorem cf_step {w : World} {a : Addr} {i n : Nat} {v : Value} {l : List Value} (h : w.cell? (a.add i) = some v) (t : cellsFrom w a (i + 1) n = some l) : cellsFrom w a i (n + 1) = some (v :: l) := by
 simp [cellsFrom, h, t]
theorem run_from (w : World) (a : Addr) : ∀ (n i : Nat) (acc : Array Value) (l : List Value), cellsFrom w a i n = some l → (loadCellsFrom a i n acc).run P w = .ok (acc ++ l.toArray) w
 | 0, i, acc, l, h => by
  simp only [cellsFrom, Option.some.injEq] at h
  subst h
  simp [loadCellsFrom]
 | n + 1, i, acc, l, h => by
  simp only [cellsFrom] at h
  obtain ⟨v, hv, h⟩ := Option.bind_eq_some_iff.mp h
  obtain ⟨l', hl, rfl⟩ := Option.map_eq_some_iff.mp h
  have ih := run_from w a n (i + 1) (acc.push v) l' hl
  simp only [loadCellsFrom, Sem.run_bind, run_load, hv, Result.andThen, ih]
  simp
theorem run_wide (a : Addr) (n : Nat) (w : World) : (loadCellsFrom a 0 n #[]).run P w = match cellsAt w a n with | some l => .ok l.toArray w | none => (heavy a n).run P w := by
 cases h : cellsAt w a n with
 | none => rfl
 | some l => simpa using run_from (P := P) w a n 0 #[] l h
theorem cellsAt_drewN (w : World) (q : Nat) (a : Addr) (n : Nat) : cellsAt (w.drewN q) a n = cellsAt w a n := by
 have : ∀ n i, cellsFrom (w.drewN q) a i n = cellsFrom w a i n := by
  intro n
  induction n with
  | zero => intro i; rfl
  | succ n ih => intro i; simp [cellsFrom, ih]
 exact this n 0
theorem cellsAt_drew (w : World) (a : Addr) (n : Nat) : cellsAt w.drew a n = cellsAt w a n := by
 have : ∀ n i, cellsFrom w.drew a i n = cellsFrom w a i n := by
  intro n
  induction n with
  | zero => intro i; rfl
  | succ n ih => intro i; simp [cellsFrom, ih]
 exact this n 0
def heavy0 (a : Addr) (n : Nat) : Sem (Array Value) := loadCellsFrom a 0 n #[]
theorem hv32 (a : Addr) : loadCellsFrom a 0 32 #[] = heavy0 a 32 := rfl
theorem lw32 (a : Addr) (w : World) : (heavy0 a 32).run P w = match cellsAt w a 32 with | some l => .ok l.toArray w | none => (heavy a 32).run P w := run_wide a 32 w
theorem mk32 {w : World} {a : Addr} {v0 v1 v2 v3 v4 v5 v6 v7 v8 v9 v10 v11 v12 v13 v14 v15 v16 v17 v18 v19 v20 v21 v22 v23 v24 v25 v26 v27 v28 v29 v30 v31 : Value} (h0 : w.cell? a = some v0) (h1 : w.cell? ⟨a.block, a.off + 1, none⟩ = some v1) (h2 : w.cell? ⟨a.block, a.off + 2, none⟩ = some v2) (h3 : w.cell? ⟨a.block, a.off + 3, none⟩ = some v3) (h4 : w.cell? ⟨a.block, a.off + 4, none⟩ = some v4) (h5 : w.cell? ⟨a.block, a.off + 5, none⟩ = some v5) (h6 : w.cell? ⟨a.block, a.off + 6, none⟩ = some v6) (h7 : w.cell? ⟨a.block, a.off + 7, none⟩ = some v7) (h8 : w.cell? ⟨a.block, a.off + 8, none⟩ = some v8) (h9 : w.cell? ⟨a.block, a.off + 9, none⟩ = some v9) (h10 : w.cell? ⟨a.block, a.off + 10, none⟩ = some v10) (h11 : w.cell? ⟨a.block, a.off + 11, none⟩ = some v11) (h12 : w.cell? ⟨a.block, a.off + 12, none⟩ = some v12) (h13 : w.cell? ⟨a.block, a.off + 13, none⟩ = some v13) (h14 : w.cell? ⟨a.block, a.off + 14, none⟩ = some v14) (h15 : w.cell? ⟨a.block, a.off + 15, none⟩ = some v15) (h16 : w.cell? ⟨a.block, a.off + 16, none⟩ = some v16) (h17 : w.cell? ⟨a.block, a.off + 17, none⟩ = some v17) (h18 : w.cell? ⟨a.block, a.off + 18, none⟩ = some v18) (h19 : w.cell? ⟨a.block, a.off + 19, none⟩ = some v19) (h20 : w.cell? ⟨a.block, a.off + 20, none⟩ = some v20) (h21 : w.cell? ⟨a.block, a.off + 21, none⟩ = some v21) (h22 : w.cell? ⟨a.block, a.off + 22, none⟩ = some v22) (h23 : w.cell? ⟨a.block, a.off + 23, none⟩ = some v23) (h24 : w.cell? ⟨a.block, a.off + 24, none⟩ = some v24) (h25 : w.cell? ⟨a.block, a.off + 25, none⟩ = some v25) (h26 : w.cell? ⟨a.block, a.off + 26, none⟩ = some v26) (h27 : w.cell? ⟨a.block, a.off + 27, none⟩ = some v27) (h28 : w.cell? ⟨a.block, a.off + 28, none⟩ = some v28) (h29 : w.cell? ⟨a.block, a.off + 29, none⟩ = some v29) (h30 : w.cell? ⟨a.block, a.off + 30, none⟩ = some v30) (h31 : w.cell? ⟨a.block, a.off + 31, none⟩ = some v31) : cellsAt w a 32 = some [v0, v1, v2, v3, v4, v5, v6, v7, v8, v9, v10, v11, v12, v13, v14, v15, v16, v17, v18, v19, v20, v21, v22, v23, v24, v25, v26, v27, v28, v29, v30, v31] := (cf_step h0 (cf_step h1 (cf_step h2 (cf_step h3 (cf_step h4 (cf_step h5 (cf_step h6 (cf_step h7 (cf_step h8 (cf_step h9 (cf_step h10 (cf_step h11 (cf_step h12 (cf_step h13 (cf_step h14 (cf_step h15 (cf_step h16 (cf_step h17 (cf_step h18 (cf_step h19 (cf_step h20 (cf_step h21 (cf_step h22 (cf_step h23 (cf_step h24 (cf_step h25 (cf_step h26 (cf_step h27 (cf_step h28 (cf_step h29 (cf_step h30 (cf_step h31 rfl))))))))))))))))))))))))))))))))
theorem hv33 (a : Addr) : loadCellsFrom a 0 33 #[] = heavy0 a 33 := rfl
theorem lw33 (a : Addr) (w : World) : (heavy0 a 33).run P w = match cellsAt w a 33 with | some l => .ok l.toArray w | none => (heavy a 33).run P w := run_wide a 33 w
theorem mk33 {w : World} {a : Addr} {v0 v1 v2 v3 v4 v5 v6 v7 v8 v9 v10 v11 v12 v13 v14 v15 v16 v17 v18 v19 v20 v21 v22 v23 v24 v25 v26 v27 v28 v29 v30 v31 v32 : Value} (h0 : w.cell? a = some v0) (h1 : w.cell? ⟨a.block, a.off + 1, none⟩ = some v1) (h2 : w.cell? ⟨a.block, a.off + 2, none⟩ = some v2) (h3 : w.cell? ⟨a.block, a.off + 3, none⟩ = some v3) (h4 : w.cell? ⟨a.block, a.off + 4, none⟩ = some v4) (h5 : w.cell? ⟨a.block, a.off + 5, none⟩ = some v5) (h6 : w.cell? ⟨a.block, a.off + 6, none⟩ = some v6) (h7 : w.cell? ⟨a.block, a.off + 7, none⟩ = some v7) (h8 : w.cell? ⟨a.block, a.off + 8, none⟩ = some v8) (h9 : w.cell? ⟨a.block, a.off + 9, none⟩ = some v9) (h10 : w.cell? ⟨a.block, a.off + 10, none⟩ = some v10) (h11 : w.cell? ⟨a.block, a.off + 11, none⟩ = some v11) (h12 : w.cell? ⟨a.block, a.off + 12, none⟩ = some v12) (h13 : w.cell? ⟨a.block, a.off + 13, none⟩ = some v13) (h14 : w.cell? ⟨a.block, a.off + 14, none⟩ = some v14) (h15 : w.cell? ⟨a.block, a.off + 15, none⟩ = some v15) (h16 : w.cell? ⟨a.block, a.off + 16, none⟩ = some v16) (h17 : w.cell? ⟨a.block, a.off + 17, none⟩ = some v17) (h18 : w.cell? ⟨a.block, a.off + 18, none⟩ = some v18) (h19 : w.cell? ⟨a.block, a.off + 19, none⟩ = some v19) (h20 : w.cell? ⟨a.block, a.off + 20, none⟩ = some v20) (h21 : w.cell? ⟨a.block, a.off + 21, none⟩ = some v21) (h22 : w.cell? ⟨a.block, a.off + 22, none⟩ = some v22) (h23 : w.cell? ⟨a.block, a.off + 23, none⟩ = some v23) (h24 : w.cell? ⟨a.block, a.off + 24, none⟩ = some v24) (h25 : w.cell? ⟨a.block, a.off + 25, none⟩ = some v25) (h26 : w.cell? ⟨a.block, a.off + 26, none⟩ = some v26) (h27 : w.cell? ⟨a.block, a.off + 27, none⟩ = some v27) (h28 : w.cell? ⟨a.block, a.off + 28, none⟩ = some v28) (h29 : w.cell? ⟨a.block, a.off + 29, none⟩ = some v29) (h30 : w.cell? ⟨a.block, a.off + 30, none⟩ = some v30) (h31 : w.cell? ⟨a.block, a.off + 31, none⟩ = some v31) (h32 : w.cell? ⟨a.block, a.off + 32, none⟩ = some v32) : cellsAt w a 33 = some [v0, v1, v2, v3, v4, v5, v6, v7, v8, v9, v10, v11, v12, v13, v14, v15, v16, v17, v18, v19, v20, v21, v22, v23, v24, v25, v26, v27, v28, v29, v30, v31, v32] := (cf_step h0 (cf_step h1 (cf_step h2 (cf_step h3 (cf_step h4 (cf_step h5 (cf_step h6 (cf_step h7 (cf_step h8 (cf_step h9 (cf_step h10 (cf_step h11 (cf_step h12 (cf_step h13 (cf_step h14 (cf_step h15 (cf_step h16 (cf_step h17 (cf_step h18 (cf_step h19 (cf_step h20 (cf_step h21 (cf_step h22 (cf_step h23 (cf_step h24 (cf_step h25 (cf_step h26 (cf_step h27 (cf_step h28 (cf_step h29 (cf_step h30 (cf_step h31 (cf_step h32 rfl)))))))))))))))))))))))))))))))))
theorem hv37 (a : Addr) : loadCellsFrom a 0 37 #[] = heavy0 a 37 := rfl
theorem lw37 (a : Addr) (w : World) : (heavy0 a 37).run P w = match cellsAt w a 37 with | some l => .ok l.toArray w | none => (heavy a 37).run P w := run_wide a 37 w
theorem mk37 {w : World} {a : Addr} {v0 v1 v2 v3 v4 v5 v6 v7 v8 v9 v10 v11 v12 v13 v14 v15 v16 v17 v18 v19 v20 v21 v22 v23 v24 v25 v26 v27 v28 v29 v30 v31 v32 v33 v34 v35 v36 : Value} (h0 : w.cell? a = some v0) (h1 : w.cell? ⟨a.block, a.off + 1, none⟩ = some v1) (h2 : w.cell? ⟨a.block, a.off + 2, none⟩ = some v2) (h3 : w.cell? ⟨a.block, a.off + 3, none⟩ = some v3) (h4 : w.cell? ⟨a.block, a.off + 4, none⟩ = some v4) (h5 : w.cell? ⟨a.block, a.off + 5, none⟩ = some v5) (h6 : w.cell? ⟨a.block, a.off + 6, none⟩ = some v6) (h7 : w.cell? ⟨a.block, a.off + 7, none⟩ = some v7) (h8 : w.cell? ⟨a.block, a.off + 8, none⟩ = some v8) (h9 : w.cell? ⟨a.block, a.off + 9, none⟩ = some v9) (h10 : w.cell? ⟨a.block, a.off + 10, none⟩ = some v10) (h11 : w.cell? ⟨a.block, a.off + 11, none⟩ = some v11) (h12 : w.cell? ⟨a.block, a.off + 12, none⟩ = some v12) (h13 : w.cell? ⟨a.block, a.off + 13, none⟩ = some v13) (h14 : w.cell? ⟨a.block, a.off + 14, none⟩ = some v14) (h15 : w.cell? ⟨a.block, a.off + 15, none⟩ = some v15) (h16 : w.cell? ⟨a.block, a.off + 16, none⟩ = some v16) (h17 : w.cell? ⟨a.block, a.off + 17, none⟩ = some v17) (h18 : w.cell? ⟨a.block, a.off + 18, none⟩ = some v18) (h19 : w.cell? ⟨a.block, a.off + 19, none⟩ = some v19) (h20 : w.cell? ⟨a.block, a.off + 20, none⟩ = some v20) (h21 : w.cell? ⟨a.block, a.off + 21, none⟩ = some v21) (h22 : w.cell? ⟨a.block, a.off + 22, none⟩ = some v22) (h23 : w.cell? ⟨a.block, a.off + 23, none⟩ = some v23) (h24 : w.cell? ⟨a.block, a.off + 24, none⟩ = some v24) (h25 : w.cell? ⟨a.block, a.off + 25, none⟩ = some v25) (h26 : w.cell? ⟨a.block, a.off + 26, none⟩ = some v26) (h27 : w.cell? ⟨a.block, a.off + 27, none⟩ = some v27) (h28 : w.cell? ⟨a.block, a.off + 28, none⟩ = some v28) (h29 : w.cell? ⟨a.block, a.off + 29, none⟩ = some v29) (h30 : w.cell? ⟨a.block, a.off + 30, none⟩ = some v30) (h31 : w.cell? ⟨a.block, a.off + 31, none⟩ = some v31) (h32 : w.cell? ⟨a.block, a.off + 32, none⟩ = some v32) (h33 : w.cell? ⟨a.block, a.off + 33, none⟩ = some v33) (h34 : w.cell? ⟨a.block, a.off + 34, none⟩ = some v34) (h35 : w.cell? ⟨a.block, a.off + 35, none⟩ = some v35) (h36 : w.cell? ⟨a.block, a.off + 36, none⟩ = some v36) : cellsAt w a 37 = some [v0, v1, v2, v3, v4, v5, v6, v7, v8, v9, v10, v11, v12, v13, v14, v15, v16, v17, v18, v19, v20, v21, v22, v23, v24, v25, v26, v27, v28, v29, v30, v31, v32, v33, v34, v35, v36] := (cf_step h0 (cf_step h1 (cf_step h2 (cf_step h3 (cf_step h4 (cf_step h5 (cf_step h6 (cf_step h7 (cf_step h8 (cf_step h9 (cf_step h10 (cf_step h11 (cf_step h12 (cf_step h13 (cf_step h14 (cf_step h15 (cf_step h16 (cf_step h17 (cf_step h18 (cf_step h19 (cf_step h20 (cf_step h21 (cf_step h22 (cf_step h23 (cf_step h24 (cf_step h25 (cf_step h26 (cf_step h27 (cf_step h28 (cf_step h29 (cf_step h30 (cf_step h31 (cf_step h32 (cf_step h33 (cf_step h34 (cf_step h35 (cf_step h36 rfl)))))))))))))))))))))))))))))))))))))
theorem hv38 (a : Addr) : loadCellsFrom a 0 38 #[] = heavy0 a 38 := rfl
theorem lw38 (a : Addr) (w : World) : (heavy0 a 38).run P w = match cellsAt w a 38 with | some l => .ok l.toArray w | none => (heavy a 38).run P w := run_wide a 38 w
theorem hv39 (a : Addr) : loadCellsFrom a 0 39 #[] = heavy0 a 39 := rfl
theorem lw39 (a : Addr) (w : World) : (heavy0 a 39).run P w = match cellsAt w a 39 with | some l => .ok l.toArray w | none => (heavy a 39).run P w := run_wide a 39 w
theorem hv44 (a : Addr) : loadCellsFrom a 0 44 #[] = heavy0 a 44 := rfl
theorem lw44 (a : Addr) (w : World) : (heavy0 a 44).run P w = match cellsAt w a 44 with | some l => .ok l.toArray w | none => (heavy a 44).run P w := run_wide a 44 w
theorem mk44 {w : World} {a : Addr} {v0 v1 v2 v3 v4 v5 v6 v7 v8 v9 v10 v11 v12 v13 v14 v15 v16 v17 v18 v19 v20 v21 v22 v23 v24 v25 v26 v27 v28 v29 v30 v31 v32 v33 v34 v35 v36 v37 v38 v39 v40 v41 v42 v43 : Value} (h0 : w.cell? a = some v0) (h1 : w.cell? ⟨a.block, a.off + 1, none⟩ = some v1) (h2 : w.cell? ⟨a.block, a.off + 2, none⟩ = some v2) (h3 : w.cell? ⟨a.block, a.off + 3, none⟩ = some v3) (h4 : w.cell? ⟨a.block, a.off + 4, none⟩ = some v4) (h5 : w.cell? ⟨a.block, a.off + 5, none⟩ = some v5) (h6 : w.cell? ⟨a.block, a.off + 6, none⟩ = some v6) (h7 : w.cell? ⟨a.block, a.off + 7, none⟩ = some v7) (h8 : w.cell? ⟨a.block, a.off + 8, none⟩ = some v8) (h9 : w.cell? ⟨a.block, a.off + 9, none⟩ = some v9) (h10 : w.cell? ⟨a.block, a.off + 10, none⟩ = some v10) (h11 : w.cell? ⟨a.block, a.off + 11, none⟩ = some v11) (h12 : w.cell? ⟨a.block, a.off + 12, none⟩ = some v12) (h13 : w.cell? ⟨a.block, a.off + 13, none⟩ = some v13) (h14 : w.cell? ⟨a.block, a.off + 14, none⟩ = some v14) (h15 : w.cell? ⟨a.block, a.off + 15, none⟩ = some v15) (h16 : w.cell? ⟨a.block, a.off + 16, none⟩ = some v16) (h17 : w.cell? ⟨a.block, a.off + 17, none⟩ = some v17) (h18 : w.cell? ⟨a.block, a.off + 18, none⟩ = some v18) (h19 : w.cell? ⟨a.block, a.off + 19, none⟩ = some v19) (h20 : w.cell? ⟨a.block, a.off + 20, none⟩ = some v20) (h21 : w.cell? ⟨a.block, a.off + 21, none⟩ = some v21) (h22 : w.cell? ⟨a.block, a.off + 22, none⟩ = some v22) (h23 : w.cell? ⟨a.block, a.off + 23, none⟩ = some v23) (h24 : w.cell? ⟨a.block, a.off + 24, none⟩ = some v24) (h25 : w.cell? ⟨a.block, a.off + 25, none⟩ = some v25) (h26 : w.cell? ⟨a.block, a.off + 26, none⟩ = some v26) (h27 : w.cell? ⟨a.block, a.off + 27, none⟩ = some v27) (h28 : w.cell? ⟨a.block, a.off + 28, none⟩ = some v28) (h29 : w.cell? ⟨a.block, a.off + 29, none⟩ = some v29) (h30 : w.cell? ⟨a.block, a.off + 30, none⟩ = some v30) (h31 : w.cell? ⟨a.block, a.off + 31, none⟩ = some v31) (h32 : w.cell? ⟨a.block, a.off + 32, none⟩ = some v32) (h33 : w.cell? ⟨a.block, a.off + 33, none⟩ = some v33) (h34 : w.cell? ⟨a.block, a.off + 34, none⟩ = some v34) (h35 : w.cell? ⟨a.block, a.off + 35, none⟩ = some v35) (h36 : w.cell? ⟨a.block, a.off + 36, none⟩ = some v36) (h37 : w.cell? ⟨a.block, a.off + 37, none⟩ = some v37) (h38 : w.cell? ⟨a.block, a.off + 38, none⟩ = some v38) (h39 : w.cell? ⟨a.block, a.off + 39, none⟩ = some v39) (h40 : w.cell? ⟨a.block, a.off + 40, none⟩ = some v40) (h41 : w.cell? ⟨a.block, a.off + 41, none⟩ = some v41) (h42 : w.cell? ⟨a.block, a.off + 42, none⟩ = some v42) (h43 : w.cell? ⟨a.block, a.off + 43, none⟩ = some v43) : cellsAt w a 44 = some [v0, v1, v2, v3, v4, v5, v6, v7, v8, v9, v10, v11, v12, v13, v14, v15, v16, v17, v18, v19, v20, v21, v22, v23, v24, v25, v26, v27, v28, v29, v30, v31, v32, v33, v34, v35, v36, v37, v38, v39, v40, v41, v42, v43] := (cf_step h0 (cf_step h1 (cf_step h2 (cf_step h3 (cf_step h4 (cf_step h5 (cf_step h6 (cf_step h7 (cf_step h8 (cf_step h9 (cf_step h10 (cf_step h11 (cf_step h12 (cf_step h13 (cf_step h14 (cf_step h15 (cf_step h16 (cf_step h17 (cf_step h18 (cf_step h19 (cf_step h20 (cf_step h21 (cf_step h22 (cf_step h23 (cf_step h24 (cf_step h25 (cf_step h26 (cf_step h27 (cf_step h28 (cf_step h29 (cf_step h30 (cf_step h31 (cf_step h32 (cf_step h33 (cf_step h34 (cf_step h35 (cf_step h36 (cf_step h37 (cf_step h38 (cf_step h39 (cf_step h40 (cf_step h41 (cf_step h42 (cf_step h43 rfl))))))))))))))))))))))))))))))))))))))))))))
end Go.Proofs.YtiodebjjbgcbhaaGreat.Wide
namespace Go.Proofs.YtiodebjjbgcbhaaGreatW.PrintWords
open Go.RowKit
section
variable {P : Program} {d : Nat} {xs ys : Array Value} {f : Field} {fs : List Field} {a b : Value} {r s : Bool} {w : World}
theorem eqf_last (hn : (f.name == "_") = false) (ha : (part f.type xs f.offset).run P w = .ok a w) (hb : (part f.type ys f.offset).run P w = .ok b w) (he : (Op.equalIn d f.type a b).run P w = .ok r w) : (Op.eqFields d xs ys [f]).run P w = .ok r w := by
 have hn' : f.name ≠ "_" := by simpa using hn
 simp only [Op.eqFields, if_pos hn', Sem.run_bind, ha, hb, he, Result.andThen_ok]
 cases r <;> simp
theorem eqf_cons (hn : (f.name == "_") = false) (ha : (part f.type xs f.offset).run P w = .ok a w) (hb : (part f.type ys f.offset).run P w = .ok b w) (he : (Op.equalIn d f.type a b).run P w = .ok r w) (hr : (Op.eqFields d xs ys fs).run P w = .ok s w) : (Op.eqFields d xs ys (f :: fs)).run P w = .ok (r && s) w := by
 have hn' : f.name ≠ "_" := by simpa using hn
 rw [Op.eqFields]
 simp only [if_pos hn', Sem.run_bind, ha, hb, he, Result.andThen_ok]
 cases r
 ·simp
 ·simpa using hr
theorem eqf_nil : (Op.eqFields d xs ys []).run P w = .ok true w := by simp [Op.eqFields]
theorem eqA_of {t : TypeId} {fs : Array Field} (hu : P.underlying t = some (.struct fs)) (hp : P.stoodInHeld t = false) (h : (Op.eqFields d xs ys fs.toList).run P w = .ok r w) : (Op.equalIn (d + 1) t (.agg xs) (.agg ys)).run P w = .ok r w := by
 have hf : P.fieldsOf t = fs := by simp [Program.fieldsOf, hu]
 rw [run_equalIn_struct (P := P) w d t xs ys (by rw [hf]; exact hu) hp, hf]
 exact h
end
end Go.Proofs.YtiodebjjbgcbhaaGreatW.PrintWords
namespace Go.Proofs.YtiodebjjbgcbhaaGreat.ArrW
open Go.RowKit
variable {P : Program}
theorem arr_eqD (D : Nat) (t el : TypeId) (k : IntKind) (n : Nat) (w : World) (l m : List Int) (hl : l.length = n) (hm : m.length = n)
 (ht : P.underlying t = some (.array n el)) (hD : ∀ a b, (Op.equalIn D el (.int k a) (.int k b)).run P w = .ok (a == b) w)
 (ha : (isAgg el).run P w = .ok false w) (hz : (Go.sizeOf el).run P w = .ok 1 w) :
 (Op.equalIn (D + 1) t (.agg (l.map (Value.int k)).toArray) (.agg (m.map (Value.int k)).toArray)).run P w = .ok (l == m) w := by
 simp only [Op.equalIn, Sem.run_bind, run_underlying ht, Result.andThen_ok, hz, Nat.mul_one]
 rw [Std.Legacy.Range.forIn_eq_forIn_range']
 have hpart : ∀ (z : List Int) (i : Nat) (h : i < z.length), (part el (z.map (Value.int k)).toArray i).run P w = .ok (.int k z[i]) w := by
  intro z i h
  simp only [part, Sem.run_bind, ha, Result.andThen_ok, Bool.false_eq_true, if_false]
  simp [h]
 have key : ∀ (j s : Nat), s + j = n → (forIn (List.range' s j 1) ((none, ()) : Option Bool × Unit) fun i _ => do
  let a ← part el (l.map (Value.int k)).toArray i
  let b ← part el (m.map (Value.int k)).toArray i
  let r ← Op.equalIn D el a b
  if (!r) = true then pure (ForInStep.done (some false, ())) else pure (ForInStep.yield (none, ())) : Sem (Option Bool × Unit)).run P w
  = .ok (if l.drop s == m.drop s then (none, ()) else (some false, ())) w := by
  intro j
  induction j with
  | zero =>
   intro s hs
   simp [List.drop_eq_nil_of_le (show l.length ≤ s by omega), List.drop_eq_nil_of_le (show m.length ≤ s by omega)]
  | succ j ih =>
   intro s hs
   have h1 : s < l.length := by omega
   have h2 : s < m.length := by omega
   simp only [List.range'_succ, List.forIn_cons, Sem.run_bind, hpart l s h1, hpart m s h2, Result.andThen_ok, hD]
   rw [List.drop_eq_getElem_cons h1, List.drop_eq_getElem_cons h2]
   by_cases e : l[s] = m[s]
   ·have e' : (l[s] == m[s]) = true := by simpa using e
    simp only [e', Bool.not_true, Bool.false_eq_true, if_false, Sem.run_pure, Result.andThen_ok]
    rw [ih (s + 1) (by omega)]
    rw [List.cons_beq_cons, e', Bool.true_and]
   ·have e' : (l[s] == m[s]) = false := by simpa using e
    simp only [e', Bool.not_false, if_true, Sem.run_pure, Result.andThen_ok]
    rw [List.cons_beq_cons, e', Bool.false_and]
    rfl
 have h := key n 0 (by omega)
 simp only [Std.Legacy.Range.size, Nat.sub_zero, Nat.add_sub_cancel, Nat.div_one] at *
 rw [h]
 simp only [List.drop_zero, Result.andThen_ok]
 cases hq : (l == m)
 ·simp
 ·simp
theorem arr_eq (d : Nat) (t el : TypeId) (k k' : IntKind) (n : Nat) (w : World) (l m : List Int) (hl : l.length = n) (hm : m.length = n)
 (ht : P.underlying t = some (.array n el)) (he : P.underlying el = some (.int k'))
 (ha : ∀ w, (isAgg el).run P w = .ok false w) (hz : ∀ w, (Go.sizeOf el).run P w = .ok 1 w) :
 (Op.equalIn (d + 2) t (.agg (l.map (Value.int k)).toArray) (.agg (m.map (Value.int k)).toArray)).run P w = .ok (l == m) w :=
 arr_eqD (d + 1) t el k n w l m hl hm ht (fun a b => run_equalIn_int w d el k k' a b he) (ha w) (hz w)
end Go.Proofs.YtiodebjjbgcbhaaGreat.ArrW
/- Out of a text that print.sh printed. -/
/-! ### 55. Reps told from the front, no append: for rows of one-cell elements and of wider ones -/
namespace Go.Proofs.YtiodebjjbgcbhaaGreatW.PrintWords
/-- One cell an element. -/
theorem Reps.one {α : Type} {R : α → List Value → Prop} {ps : List α} {cs : List Value} {p : α} {v : Value} (hp : R p [v]) (h : Reps R 1 ps cs) : Reps R 1 (p :: ps) (v :: cs) := by
  refine ⟨by simp [h.1], fun j q hq => ?_⟩
  cases j with
  | zero =>
    simp only [List.getElem?_cons_zero, Option.some.injEq] at hq
    subst hq
    simpa using hp
  | succ j =>
    simp only [List.getElem?_cons_succ] at hq
    have h1 := h.2 j q hq
    simpa [Nat.mul_one] using h1
/-- More cells an element: told apart by the cells' list. -/
theorem Reps.front {α : Type} {R : α → List Value → Prop} {size : Nat} {ps : List α} {cs c all : List Value} {p : α} (hp : R p c) (hc : c.length = size) (h : Reps R size ps cs) (ha : c ++ cs = all) : Reps R size (p :: ps) all := by
  subst ha
  refine ⟨by rw [List.length_append, hc, h.1, List.length_cons, Nat.succ_mul, Nat.add_comm], fun j q hq => ?_⟩
  cases j with
  | zero =>
    simp only [List.getElem?_cons_zero, Option.some.injEq] at hq
    subst hq
    rw [Nat.zero_mul, List.drop_zero, List.take_append_of_le_length (by omega), List.take_of_length_le (by omega)]
    exact hp
  | succ j =>
    simp only [List.getElem?_cons_succ] at hq
    have h1 := h.2 j q hq
    rw [Nat.succ_mul, List.drop_append, List.drop_of_length_le (by rw [hc]; exact Nat.le_add_left _ _), List.nil_append, hc, Nat.add_sub_cancel]
    exact h1
theorem Reps.c2 {α : Type} {R : α → List Value → Prop} {ps : List α} {cs : List Value} {p : α} {va vb : Value} (hp : R p [va, vb]) (h : Reps R 2 ps cs) : Reps R 2 (p :: ps) (va :: vb :: cs) := Reps.front hp rfl h rfl
theorem Reps.c3 {α : Type} {R : α → List Value → Prop} {ps : List α} {cs : List Value} {p : α} {va vb vc : Value} (hp : R p [va, vb, vc]) (h : Reps R 3 ps cs) : Reps R 3 (p :: ps) (va :: vb :: vc :: cs) := Reps.front hp rfl h rfl
theorem Reps.c4 {α : Type} {R : α → List Value → Prop} {ps : List α} {cs : List Value} {p : α} {va vb vc vd : Value} (hp : R p [va, vb, vc, vd]) (h : Reps R 4 ps cs) : Reps R 4 (p :: ps) (va :: vb :: vc :: vd :: cs) := Reps.front hp rfl h rfl
theorem Reps.c5 {α : Type} {R : α → List Value → Prop} {ps : List α} {cs : List Value} {p : α} {va vb vc vd ve : Value} (hp : R p [va, vb, vc, vd, ve]) (h : Reps R 5 ps cs) : Reps R 5 (p :: ps) (va :: vb :: vc :: vd :: ve :: cs) := Reps.front hp rfl h rfl
theorem Reps.c6 {α : Type} {R : α → List Value → Prop} {ps : List α} {cs : List Value} {p : α} {va vb vc vd ve vf : Value} (hp : R p [va, vb, vc, vd, ve, vf]) (h : Reps R 6 ps cs) : Reps R 6 (p :: ps) (va :: vb :: vc :: vd :: ve :: vf :: cs) := Reps.front hp rfl h rfl
theorem Reps.c7 {α : Type} {R : α → List Value → Prop} {ps : List α} {cs : List Value} {p : α} {va vb vc vd ve vf vg : Value} (hp : R p [va, vb, vc, vd, ve, vf, vg]) (h : Reps R 7 ps cs) : Reps R 7 (p :: ps) (va :: vb :: vc :: vd :: ve :: vf :: vg :: cs) := Reps.front hp rfl h rfl
theorem Reps.c8 {α : Type} {R : α → List Value → Prop} {ps : List α} {cs : List Value} {p : α} {va vb vc vd ve vf vg vh : Value} (hp : R p [va, vb, vc, vd, ve, vf, vg, vh]) (h : Reps R 8 ps cs) : Reps R 8 (p :: ps) (va :: vb :: vc :: vd :: ve :: vf :: vg :: vh :: cs) := Reps.front hp rfl h rfl
theorem Reps.c9 {α : Type} {R : α → List Value → Prop} {ps : List α} {cs : List Value} {p : α} {va vb vc vd ve vf vg vh vi : Value} (hp : R p [va, vb, vc, vd, ve, vf, vg, vh, vi]) (h : Reps R 9 ps cs) : Reps R 9 (p :: ps) (va :: vb :: vc :: vd :: ve :: vf :: vg :: vh :: vi :: cs) := Reps.front hp rfl h rfl
theorem Reps.c10 {α : Type} {R : α → List Value → Prop} {ps : List α} {cs : List Value} {p : α} {va vb vc vd ve vf vg vh vi vj : Value} (hp : R p [va, vb, vc, vd, ve, vf, vg, vh, vi, vj]) (h : Reps R 10 ps cs) : Reps R 10 (p :: ps) (va :: vb :: vc :: vd :: ve :: vf :: vg :: vh :: vi :: vj :: cs) := Reps.front hp rfl h rfl
end Go.Proofs.YtiodebjjbgcbhaaGreatW.PrintWords
namespace Go.Proofs.YtiodebjjbgcbhaaGreatW.PrintWords
open Go.RowKit
section
variable {P : Program} {ops : Array Oper} {rest : List Oper} {o : Oper} {a : Act} {Q : Exit → Act → World → Prop} {W : World}
theorem gate_guard (hw : Region.wanted o (yielded ops a.tmps) = true) (h : wpList P ops Q ({ o with guard := none } :: rest) a W) : wpList P ops Q (o :: rest) a W := by
 have h1 : Region.wanted { o with guard := none } (yielded ops a.tmps) = true := rfl
 unfold wpList at h ⊢
 rw [if_pos h1] at h
 rw [if_pos hw]
 exact h
end
end Go.Proofs.YtiodebjjbgcbhaaGreatW.PrintWords
