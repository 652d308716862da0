/- Structs compared: a change, a condition, a row. Printed by wip/gen/codeka.py. -/
import Derived.Test.YtloiclalcepbeaaCodeE
set_option linter.unusedVariables false
set_option linter.unusedSimpArgs false
namespace Go.Proofs.Ytloiclalcepbeaa
open Go.RowKit Go.Proofs.YtloiclalcepbeaaW.PrintWords Go.Proofs.YtloiclalcepbeaaW.PrintLast
theorem nbeq {α : Type} [BEq α] [LawfulBEq α] {x y : α} (h : x ≠ y) : (x == y) = false := by simpa using h
set_option maxHeartbeats 1600000 in
theorem mut_neq (x0 y0 : Bool) (x1 y1 : ByteArray) (x2 y2 : ByteArray) (x3 y3 : ByteArray) (W : World) : (binOp .neq 83 (.agg #[.bool x0, .string x1, .string x2, .string x3]) (.agg #[.bool y0, .string y1, .string y2, .string y3])).run Try.prog W = .ok (.bool (decide (¬ (x0 = y0 ∧ x1 = y1 ∧ x2 = y2 ∧ x3 = y3)))) W := by
  by_cases h0 : x0 = y0
  · subst h0
    by_cases h1 : x1 = y1
    · subst h1
      by_cases h2 : x2 = y2
      · subst h2
        by_cases h3 : x3 = y3
        · subst h3
          rw [decide_eq_false (by simp)]
          go_simp
          done
        · have g := mt tx_toList.mp h3
          rw [decide_eq_true (by simp [h3])]
          go_simp
          done
      · have g := mt tx_toList.mp h2
        rw [decide_eq_true (by simp [h2])]
        go_simp
        done
    · have g := mt tx_toList.mp h1
      rw [decide_eq_true (by simp [h1])]
      go_simp
      done
  · have g := nbeq h0
    rw [decide_eq_true (by simp [h0])]
    go_simp
    done
set_option maxHeartbeats 1600000 in
theorem cond_neq (x0 y0 : Bool) (x1 y1 : ByteArray) (x2 y2 : ByteArray) (x3 y3 : ByteArray) (W : World) : (binOp .neq 91 (.agg #[.bool x0, .string x1, .string x2, .string x3]) (.agg #[.bool y0, .string y1, .string y2, .string y3])).run Try.prog W = .ok (.bool (decide (¬ (x0 = y0 ∧ x1 = y1 ∧ x2 = y2 ∧ x3 = y3)))) W := by
  by_cases h0 : x0 = y0
  · subst h0
    by_cases h1 : x1 = y1
    · subst h1
      by_cases h2 : x2 = y2
      · subst h2
        by_cases h3 : x3 = y3
        · subst h3
          rw [decide_eq_false (by simp)]
          go_simp
          done
        · have g := mt tx_toList.mp h3
          rw [decide_eq_true (by simp [h3])]
          go_simp
          done
      · have g := mt tx_toList.mp h2
        rw [decide_eq_true (by simp [h2])]
        go_simp
        done
    · have g := mt tx_toList.mp h1
      rw [decide_eq_true (by simp [h1])]
      go_simp
      done
  · have g := nbeq h0
    rw [decide_eq_true (by simp [h0])]
    go_simp
    done
set_option maxHeartbeats 1600000 in
theorem row_neq (x0 y0 : ByteArray) (x1 y1 : ByteArray) (x2 y2 : ByteArray) (x3 y3 : Int) (x4 y4 : Int) (W : World) : (binOp .neq 93 (.agg #[.string x0, .string x1, .string x2, .int .i64 x3, .int .i64 x4]) (.agg #[.string y0, .string y1, .string y2, .int .i64 y3, .int .i64 y4])).run Try.prog W = .ok (.bool (decide (¬ (x0 = y0 ∧ x1 = y1 ∧ x2 = y2 ∧ x3 = y3 ∧ x4 = y4)))) W := by
  by_cases h0 : x0 = y0
  · subst h0
    by_cases h1 : x1 = y1
    · subst h1
      by_cases h2 : x2 = y2
      · subst h2
        by_cases h3 : x3 = y3
        · subst h3
          by_cases h4 : x4 = y4
          · subst h4
            rw [decide_eq_false (by simp)]
            go_simp
            done
          · have g := nbeq h4
            rw [decide_eq_true (by simp [h4])]
            go_simp
            done
        · have g := nbeq h3
          rw [decide_eq_true (by simp [h3])]
          go_simp
          done
      · have g := mt tx_toList.mp h2
        rw [decide_eq_true (by simp [h2])]
        go_simp
        done
    · have g := mt tx_toList.mp h1
      rw [decide_eq_true (by simp [h1])]
      go_simp
      done
  · have g := mt tx_toList.mp h0
    rw [decide_eq_true (by simp [h0])]
    go_simp
    done
theorem mut_same (x : Mut) (W : World) : (binOp .neq 83 (.agg #[.bool x.1, .string x.2.1, .string x.2.2.1, .string x.2.2.2]) (.agg #[.bool x.1, .string x.2.1, .string x.2.2.1, .string x.2.2.2])).run Try.prog W = .ok (.bool false) W := by
  rw [mut_neq, decide_eq_false (by simp)]
theorem mut_diff (x y : Mut) (h : x ≠ y) (W : World) : (binOp .neq 83 (.agg #[.bool x.1, .string x.2.1, .string x.2.2.1, .string x.2.2.2]) (.agg #[.bool y.1, .string y.2.1, .string y.2.2.1, .string y.2.2.2])).run Try.prog W = .ok (.bool true) W := by
  have hc : ¬ (x.1 = y.1 ∧ x.2.1 = y.2.1 ∧ x.2.2.1 = y.2.2.1 ∧ x.2.2.2 = y.2.2.2) := by
    intro hh
    obtain ⟨a, b, c, d⟩ := x
    obtain ⟨a', b', c', d'⟩ := y
    obtain ⟨rfl, rfl, rfl, rfl⟩ := hh
    exact h rfl
  rw [mut_neq, decide_eq_true hc]
theorem cond_same (x : Mut) (W : World) : (binOp .neq 91 (.agg #[.bool x.1, .string x.2.1, .string x.2.2.1, .string x.2.2.2]) (.agg #[.bool x.1, .string x.2.1, .string x.2.2.1, .string x.2.2.2])).run Try.prog W = .ok (.bool false) W := by
  rw [cond_neq, decide_eq_false (by simp)]
theorem cond_diff (x y : Mut) (h : x ≠ y) (W : World) : (binOp .neq 91 (.agg #[.bool x.1, .string x.2.1, .string x.2.2.1, .string x.2.2.2]) (.agg #[.bool y.1, .string y.2.1, .string y.2.2.1, .string y.2.2.2])).run Try.prog W = .ok (.bool true) W := by
  have hc : ¬ (x.1 = y.1 ∧ x.2.1 = y.2.1 ∧ x.2.2.1 = y.2.2.1 ∧ x.2.2.2 = y.2.2.2) := by
    intro hh
    obtain ⟨a, b, c, d⟩ := x
    obtain ⟨a', b', c', d'⟩ := y
    obtain ⟨rfl, rfl, rfl, rfl⟩ := hh
    exact h rfl
  rw [cond_neq, decide_eq_true hc]
theorem row_same (x : Rw) (W : World) : (binOp .neq 93 (.agg #[.string x.1.1, .string x.1.2.1, .string x.1.2.2, .int .i64 x.2.1, .int .i64 x.2.2]) (.agg #[.string x.1.1, .string x.1.2.1, .string x.1.2.2, .int .i64 x.2.1, .int .i64 x.2.2])).run Try.prog W = .ok (.bool false) W := by
  rw [row_neq, decide_eq_false (by simp)]
theorem row_diff (x y : Rw) (h : x ≠ y) (W : World) : (binOp .neq 93 (.agg #[.string x.1.1, .string x.1.2.1, .string x.1.2.2, .int .i64 x.2.1, .int .i64 x.2.2]) (.agg #[.string y.1.1, .string y.1.2.1, .string y.1.2.2, .int .i64 y.2.1, .int .i64 y.2.2])).run Try.prog W = .ok (.bool true) W := by
  have hc : ¬ (x.1.1 = y.1.1 ∧ x.1.2.1 = y.1.2.1 ∧ x.1.2.2 = y.1.2.2 ∧ x.2.1 = y.2.1 ∧ x.2.2 = y.2.2) := by
    intro hh
    obtain ⟨⟨a, b, c⟩, d, e⟩ := x
    obtain ⟨⟨a', b', c'⟩, d', e'⟩ := y
    obtain ⟨rfl, rfl, rfl, rfl, rfl⟩ := hh
    exact h rfl
  rw [row_neq, decide_eq_true hc]
end Go.Proofs.Ytloiclalcepbeaa
