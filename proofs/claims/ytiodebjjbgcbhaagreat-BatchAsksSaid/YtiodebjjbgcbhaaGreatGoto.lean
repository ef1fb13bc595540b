import Derived.WalkMore
namespace Go.Proofs.YtiodebjjbgcbhaaGreat
open Go
def land (P : Program) (c : Code) (Q : Exit → Act → World → Prop) : Nat → Exit → Act → World → Prop
 | n + 1, .goto l, a, w => ∃ rest, findLabel c l = some rest ∧ rest.wp P (land P c Q n) a w
 | 0, .goto _, _, _ => False
 | _, .normal, a, w => Q .normal a w
 | _, .exit id, a, w => Q (.exit id) a w
 | _, .ret, a, w => Q .ret a w
 | _, .panic ch, a, w => Q (.panic ch) a w
 | _, .outgrown, a, w => Q .outgrown a w
section
variable {P : Program} {c : Code} {Q : Exit → Act → World → Prop} {a : Act} {w : World} {n : Nat}
theorem land_normal : land P c Q n .normal a w = Q .normal a w := by cases n <;> rfl
theorem land_ret : land P c Q n .ret a w = Q .ret a w := by cases n <;> rfl
theorem land_goto {l : Nat} {rest : Code} (hf : findLabel c l = some rest) (h : rest.wp P (land P c Q n) a w) : land P c Q (n + 1) (.goto l) a w := ⟨rest, hf, h⟩
theorem wp_scope_land (n : Nat) (first : c.wp P (land P c Q n) a w) : (Code.scope c).wp P Q a w := by
 intro b k cs
 have key : ∀ n (rest : Code) a w, rest.wp P (land P c Q n) a w → ∃ e a' w', Q e a' w' ∧ Arrives P (lone (b.at a (.code rest :: .inScope c :: k)) cs w) b k cs e a' w' := by
  intro n
  induction n with
  | zero =>
   intro rest a w h
   obtain ⟨e, a₁, w₁, hq, harr⟩ := h b (.inScope c :: k) cs
   cases e with
   | normal => exact ⟨.normal, a₁, w₁, hq, Steps.trans harr (.one step_inScope)⟩
   | exit id => exact ⟨.exit id, a₁, w₁, hq, fun k' hk => harr k' (by simp [exitTo, hk])⟩
   | goto l' => exact absurd hq (by simp [land])
   | ret => exact ⟨_, a₁, w₁, hq, harr⟩
   | panic ch => exact ⟨_, a₁, w₁, hq, harr⟩
   | outgrown => exact ⟨_, a₁, w₁, hq, harr⟩
  | succ n ih =>
   intro rest a w h
   obtain ⟨e, a₁, w₁, hq, harr⟩ := h b (.inScope c :: k) cs
   cases e with
   | normal => exact ⟨.normal, a₁, w₁, hq, Steps.trans harr (.one step_inScope)⟩
   | exit id => exact ⟨.exit id, a₁, w₁, hq, fun k' hk => harr k' (by simp [exitTo, hk])⟩
   | goto l' =>
    obtain ⟨rest', hf, hr⟩ := hq
    have hg : gotoIn l' (.inScope c :: k) = some (.code rest' :: .inScope c :: k) := by simp [gotoIn, hf]
    obtain ⟨e₂, a₂, w₂, hq₂, harr₂⟩ := ih rest' a₁ w₁ hr
    exact ⟨e₂, a₂, w₂, hq₂, .of_steps (harr _ hg) harr₂⟩
   | ret => exact ⟨_, a₁, w₁, hq, harr⟩
   | panic ch => exact ⟨_, a₁, w₁, hq, harr⟩
   | outgrown => exact ⟨_, a₁, w₁, hq, harr⟩
 obtain ⟨e, a₁, w₁, hq, harr⟩ := key n c a w first
 refine ⟨e, a₁, w₁, hq, ?_⟩
 cases e with
 | normal => exact .head step_scope harr
 | exit id => exact fun k' hk => .head step_scope (harr k' hk)
 | goto l' => exact fun k' hk => .head step_scope (harr k' hk)
 | ret => exact .of_steps (.one step_scope) harr
 | panic ch => exact .of_steps (.one step_scope) harr
 | outgrown => exact .of_steps (.one step_scope) harr
end
end Go.Proofs.YtiodebjjbgcbhaaGreat
