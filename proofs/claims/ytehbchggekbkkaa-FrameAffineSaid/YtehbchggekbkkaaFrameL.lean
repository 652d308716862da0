/- What is sealed is opened again, and the other way round: plain laws. -/
import Derived.Test.YtehbchggekbkkaaFrameC
set_option linter.unusedVariables false
set_option linter.unusedSimpArgs false
namespace Go.Proofs.Ytehbchggekbkkaa
theorem open_seal (xs ys : List Int) (hb : isB xs) (hl : xs.length ≤ 16384) : openErr (sealOf xs ++ ys) = 0 ∧ openTxt (sealOf xs ++ ys) = xs ∧ openEnd (sealOf xs ++ ys) = 8 + xs.length := by
  obtain ⟨c, hc⟩ : ∃ c : Int, c = ((crc (be4 xs.length ++ xs)).toNat : Int) := ⟨_, rfl⟩
  have hcr := crc_range (be4 xs.length ++ xs)
  rw [← hc] at hcr
  have e0 : sealOf xs ++ ys = be4 xs.length ++ (be4 c ++ (xs ++ ys)) := by unfold sealOf; rw [← hc]; simp
  rw [e0]
  have e1 : rd4 (be4 xs.length ++ (be4 c ++ (xs ++ ys))) = xs.length := rd4_be4 _ (by omega) (by omega) _
  have e2 : (be4 (xs.length : Int) ++ (be4 c ++ (xs ++ ys))).take 4 = be4 xs.length := List.take_left' rfl
  have e3 : (be4 (xs.length : Int) ++ (be4 c ++ (xs ++ ys))).drop 4 = be4 c ++ (xs ++ ys) := List.drop_left' rfl
  have e4 : ((be4 (xs.length : Int) ++ (be4 c ++ (xs ++ ys))).take (8 + xs.length)).drop 8 = xs := by
    have : be4 (xs.length : Int) ++ (be4 c ++ (xs ++ ys)) = (be4 xs.length ++ be4 c) ++ (xs ++ ys) := by simp
    rw [this, List.drop_take, List.drop_left' (by simp [be4_len]), show 8 + xs.length - 8 = xs.length by omega, List.take_left' rfl]
  have e5 : rd4 (be4 c ++ (xs ++ ys)) = c := rd4_be4 _ hcr.1 hcr.2 _
  have hlen : (be4 (xs.length : Int) ++ (be4 c ++ (xs ++ ys))).length = 8 + xs.length + ys.length := by simp [be4_len]; omega
  have he : openErr (be4 xs.length ++ (be4 c ++ (xs ++ ys))) = 0 := by
    unfold openErr
    rw [e1, Int.toNat_natCast, e2, e3, e4, e5, ← hc, hlen, if_neg (by omega), if_neg (by omega), if_neg (by omega), if_pos rfl]
  refine ⟨he, ?_, ?_⟩
  · unfold openTxt
    rw [if_pos he, e1, Int.toNat_natCast, e4]
  · unfold openEnd
    rw [if_pos he, e1]
theorem open_seal0 (xs : List Int) (hb : isB xs) (hl : xs.length ≤ 16384) : openErr (sealOf xs) = 0 ∧ openTxt (sealOf xs) = xs ∧ openEnd (sealOf xs) = 8 + xs.length := by
  have := open_seal xs [] hb hl
  rwa [List.append_nil] at this
theorem open_bad (xs : List Int) (h : openErr xs ≠ 0) : openTxt xs = [] ∧ openEnd xs = 0 := by
  unfold openTxt openEnd
  rw [if_neg h, if_neg h]
  exact ⟨rfl, rfl⟩
/-- What was opened, sealed again. -/
theorem seal_open (xs : List Int) (hb : isB xs) (h : openErr xs = 0) : ∃ v : Nat, rd4 xs = v ∧ v ≤ 16384 ∧ 8 + v ≤ xs.length ∧ openEnd xs = 8 + v ∧ (openTxt xs).length = v ∧ sealOf (openTxt xs) = xs.take (8 + v) := by
  have hr := rd4_range xs hb
  obtain ⟨v, hv⟩ : ∃ v : Nat, rd4 xs = v := ⟨(rd4 xs).toNat, by omega⟩
  have ht : openTxt xs = (xs.take (8 + v)).drop 8 := by unfold openTxt; rw [if_pos h, hv, Int.toNat_natCast]
  have he : openEnd xs = 8 + v := by unfold openEnd; rw [if_pos h, hv]
  unfold openErr at h
  rw [hv, Int.toNat_natCast] at h
  split at h
  · cases h
  · split at h
    · cases h
    · split at h
      · cases h
      · split at h
        · rename_i h1 h2 h3 h4
          have hl : (openTxt xs).length = v := by rw [ht, List.length_drop, List.length_take]; omega
          refine ⟨v, hv, by omega, by omega, he, hl, ?_⟩
          unfold sealOf
          rw [hl, ht]
          have b1 : be4 (v : Int) = xs.take 4 := by rw [← hv]; exact be4_rd4_take xs (by omega) hb
          rw [b1, h4]
          have b2 := be4_rd4_take (xs.drop 4) (by rw [List.length_drop]; omega) (fun x hx => hb x (List.mem_of_mem_drop hx))
          rw [b2]
          have h5 : (xs.take (8 + v)).take 8 ++ (xs.take (8 + v)).drop 8 = xs.take (8 + v) := List.take_append_drop 8 _
          rw [List.take_take, show min 8 (8 + v) = 4 + 4 by omega, List.take_add] at h5
          exact h5
        · cases h
theorem sealOf_isB (xs : List Int) (hb : isB xs) : isB (sealOf xs) := by
  intro x hx
  simp only [sealOf, List.mem_append] at hx
  rcases hx with (hx | hx) | hx
  · exact be4_isB _ x hx
  · exact be4_isB _ x hx
  · exact hb x hx
end Go.Proofs.Ytehbchggekbkkaa
