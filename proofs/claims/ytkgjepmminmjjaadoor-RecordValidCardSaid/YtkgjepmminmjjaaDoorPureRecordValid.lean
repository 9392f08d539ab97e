import Derived.Test.YtkgjepmminmjjaaDoorEx33
import Derived.Test.YtkgjepmminmjjaaDoorEo
import Derived.Test.YtkgjepmminmjjaaDoorMRecD
/- Written by the session's own program hyb.py: what functions of the program compute; Lean checks it. -/
namespace Go.Proofs.YtkgjepmminmjjaaDoor.E
open Go.RowKit Go.ChangeShapes Go.WideShapes
def RecordValid.Pure : Prop := ∀ (x0 : S32), q32 x0 → ∃ k, turnstilelaw11_RecordValid.f k (x0.f0) (x0.f1) (x0.f2) (x0.f3.f0) (x0.f3.f1) (x0.f3.f2) (x0.f3.f3) (x0.f3.f4) (x0.f4.f0) (x0.f4.f1) (x0.f4.f2) = some true
end Go.Proofs.YtkgjepmminmjjaaDoor.E
namespace Go.Proofs.YtkgjepmminmjjaaDoor.Pure
set_option linter.unusedVariables false
set_option linter.unusedSimpArgs false
open Go.RowKit Go.Proofs.YtkgjepmminmjjaaDoor.E Go.Proofs.YtkgjepmminmjjaaDoor.M Go.Proofs.YtkgjepmminmjjaaDoorW.PrintWords Go.Proofs.YtkgjepmminmjjaaDoorW.PrintLast

theorem j3_eq (r : Rec) (k : Nat) (b : Bool) (h : b = true ↔ RV r) : turnstilelaw11_RecordValid.j3 (k + 2) b r.kind r.floor r.key r.pk r.gap r.slack r.lim r.span r.tat r.ix r.cnt = some true := by
  have hV := RValid r k
  unfold vrec at hV
  rw [turnstilelaw11_RecordValid.j3, hV, Option.bind_some]
  have : decide (RV r) = b := M.bool_iff (by rw [decide_eq_true_iff, h])
  rw [this]
  simp
theorem j7_eq (r : Rec) (k : Nat) (b : Bool) (h : b = true ↔ RV r) : turnstilelaw11_RecordValid.j7 (k + 2) b r.kind r.floor r.key r.pk r.gap r.slack r.lim r.span r.tat r.ix r.cnt = some true := by
  have hV := RValid r k
  unfold vrec at hV
  rw [turnstilelaw11_RecordValid.j7, hV, Option.bind_some]
  have : decide (RV r) = b := M.bool_iff (by rw [decide_eq_true_iff, h])
  rw [this]
  simp
set_option maxHeartbeats 4000000
theorem j2_eq (r : Rec) (k : Nat) (x4 x5 x6 x7 x8 x9 : Bool) (h4 : x4 = true ↔ (1 ≤ r.key.size ∧ r.key.size ≤ 64)) (h5 : x5 = true ↔ (r.pk = 1 ∧ 1 ≤ r.gap ∧ r.lim = 0 ∧ r.span = 0)) (h6 : x6 = true ↔ (r.pk = 2 ∧ 1 ≤ r.span ∧ r.gap = 0 ∧ r.slack = 0))
    (h7 : x7 = true ↔ (r.pk = 0 ∧ r.gap = 0 ∧ r.slack = 0 ∧ r.lim = 0 ∧ r.span = 0)) (h8 : x8 = true ↔ (r.tat = 0 ∧ r.ix = 0 ∧ r.cnt = 0)) (h9 : x9 = true ↔ (r.tat = 0 ∨ r.ix = 0 ∧ r.cnt = 0)) :
    turnstilelaw11_RecordValid.j2 (k + 3) x4 x5 x6 x7 x8 x9 r.kind r.floor r.key r.pk r.gap r.slack r.lim r.span r.tat r.ix r.cnt = some true := by
  have hRV : RV r ↔ (x4 = true ∧ ((r.kind = 1 ∧ (x5 = true ∨ x6 = true) ∧ x8 = true) ∨ (r.kind = 2 ∧ x7 = true ∧ x8 = true) ∨ (r.kind = 3 ∧ x7 = true ∧ x9 = true))) := by
    unfold RV
    rw [h4, h5, h6, h7, h8, h9]
    exact ⟨fun ⟨a, b, c⟩ => ⟨⟨a, b⟩, c⟩, fun ⟨⟨a, b⟩, c⟩ => ⟨a, b, c⟩⟩
  rw [turnstilelaw11_RecordValid.j2]
  clear h4 h5 h6 h7 h8 h9
  have J : ∀ b : Bool, (b = true ↔ RV r) → _ := fun b h => j3_eq r k b h
  repeat' split
  all_goals (refine J _ ?_; rw [hRV]; simp_all)
theorem j6_eq (r : Rec) (k : Nat) (x4 x5 x6 x7 x8 x9 : Bool) (h4 : x4 = true ↔ (1 ≤ r.key.size ∧ r.key.size ≤ 64)) (h5 : x5 = true ↔ (r.pk = 1 ∧ 1 ≤ r.gap ∧ r.lim = 0 ∧ r.span = 0)) (h6 : x6 = true ↔ (r.pk = 2 ∧ 1 ≤ r.span ∧ r.gap = 0 ∧ r.slack = 0))
    (h7 : x7 = true ↔ (r.pk = 0 ∧ r.gap = 0 ∧ r.slack = 0 ∧ r.lim = 0 ∧ r.span = 0)) (h8 : x8 = true ↔ (r.tat = 0 ∧ r.ix = 0 ∧ r.cnt = 0)) (h9 : x9 = true ↔ (r.tat = 0 ∨ r.ix = 0 ∧ r.cnt = 0)) :
    turnstilelaw11_RecordValid.j6 (k + 3) x4 x5 x6 x7 x8 x9 r.kind r.floor r.key r.pk r.gap r.slack r.lim r.span r.tat r.ix r.cnt = some true := by
  have hRV : RV r ↔ (x4 = true ∧ ((r.kind = 1 ∧ (x5 = true ∨ x6 = true) ∧ x8 = true) ∨ (r.kind = 2 ∧ x7 = true ∧ x8 = true) ∨ (r.kind = 3 ∧ x7 = true ∧ x9 = true))) := by
    unfold RV
    rw [h4, h5, h6, h7, h8, h9]
    exact ⟨fun ⟨a, b, c⟩ => ⟨⟨a, b⟩, c⟩, fun ⟨⟨a, b⟩, c⟩ => ⟨a, b, c⟩⟩
  rw [turnstilelaw11_RecordValid.j6]
  clear h4 h5 h6 h7 h8 h9
  have J : ∀ b : Bool, (b = true ↔ RV r) → _ := fun b h => j7_eq r k b h
  repeat' split
  all_goals (refine J _ ?_; rw [hRV]; simp_all)
theorem j1_eq (r : Rec) (k : Nat) (x4 x5 x6 : Bool) (h4 : x4 = true ↔ (1 ≤ r.key.size ∧ r.key.size ≤ 64)) (h5 : x5 = true ↔ (r.pk = 1 ∧ 1 ≤ r.gap ∧ r.lim = 0 ∧ r.span = 0)) (h6 : x6 = true ↔ (r.pk = 2 ∧ 1 ≤ r.span ∧ r.gap = 0 ∧ r.slack = 0)) :
    turnstilelaw11_RecordValid.j1 (k + 4) x4 x5 x6 r.kind r.floor r.key r.pk r.gap r.slack r.lim r.span r.tat r.ix r.cnt = some true := by
  rw [turnstilelaw11_RecordValid.j1]
  repeat' split
  all_goals exact j2_eq r k _ _ _ _ _ _ h4 h5 h6 (by simp) (by simp) (by simp; omega)
theorem j5_eq (r : Rec) (k : Nat) (x4 x5 x6 : Bool) (h4 : x4 = true ↔ (1 ≤ r.key.size ∧ r.key.size ≤ 64)) (h5 : x5 = true ↔ (r.pk = 1 ∧ 1 ≤ r.gap ∧ r.lim = 0 ∧ r.span = 0)) (h6 : x6 = true ↔ (r.pk = 2 ∧ 1 ≤ r.span ∧ r.gap = 0 ∧ r.slack = 0)) :
    turnstilelaw11_RecordValid.j5 (k + 4) x4 x5 x6 r.kind r.floor r.key r.pk r.gap r.slack r.lim r.span r.tat r.ix r.cnt = some true := by
  rw [turnstilelaw11_RecordValid.j5]
  repeat' split
  all_goals exact j6_eq r k _ _ _ _ _ _ h4 h5 h6 (by simp) (by simp) (by simp; omega)
theorem j0_eq (r : Rec) (k : Nat) (x4 x5 : Bool) (h4 : x4 = true ↔ (1 ≤ r.key.size ∧ r.key.size ≤ 64)) (h5 : x5 = true ↔ (r.pk = 1 ∧ 1 ≤ r.gap ∧ r.lim = 0 ∧ r.span = 0)) :
    turnstilelaw11_RecordValid.j0 (k + 5) x4 x5 r.kind r.floor r.key r.pk r.gap r.slack r.lim r.span r.tat r.ix r.cnt = some true := by
  rw [turnstilelaw11_RecordValid.j0]
  repeat' split
  all_goals exact j1_eq r k _ _ _ h4 h5 (by simp; omega)
theorem j4_eq (r : Rec) (k : Nat) (x4 x5 : Bool) (h4 : x4 = true ↔ (1 ≤ r.key.size ∧ r.key.size ≤ 64)) (h5 : x5 = true ↔ (r.pk = 1 ∧ 1 ≤ r.gap ∧ r.lim = 0 ∧ r.span = 0)) :
    turnstilelaw11_RecordValid.j4 (k + 5) x4 x5 r.kind r.floor r.key r.pk r.gap r.slack r.lim r.span r.tat r.ix r.cnt = some true := by
  rw [turnstilelaw11_RecordValid.j4]
  repeat' split
  all_goals exact j5_eq r k _ _ _ h4 h5 (by simp; omega)
theorem RecordValid : RecordValid.Pure := by
  intro x q
  let r : Rec := ⟨x.f0, x.f1, x.f2, x.f3.f0, x.f3.f1, x.f3.f2, x.f3.f3, x.f3.f4, x.f4.f0, x.f4.f1, x.f4.f2⟩
  refine ⟨20, ?_⟩
  have hA := awake_at 6
  have goal : ∀ (r : Rec), turnstilelaw11_RecordValid.f 20 r.kind r.floor r.key r.pk r.gap r.slack r.lim r.span r.tat r.ix r.cnt = some true := by
    intro r
    unfold turnstilelaw11_RecordValid.f
    rw [hA, Option.bind_some, if_pos rfl]
    repeat' split
    all_goals first
      | exact j0_eq r 15 _ _ (by simp; omega) (by simp; omega)
      | exact j4_eq r 15 _ _ (by simp; omega) (by simp; omega)
  exact goal r

end Go.Proofs.YtkgjepmminmjjaaDoor.Pure
