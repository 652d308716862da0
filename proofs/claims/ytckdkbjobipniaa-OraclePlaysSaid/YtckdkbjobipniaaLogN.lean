/- What a log's bytes tell: plain. -/
import Derived.Test.YtckdkbjobipniaaFA
import Derived.Test.YtckdkbjobipniaaCC
set_option linter.unusedVariables false
namespace Go.Proofs.Ytckdkbjobipniaa
structure GoodM (m : Msg) : Prop where
  ok : MsgOk m
  fits : MsgFits m
  len : (encMsg m).length ≤ 16384
def recOf (m : Msg) : List Int := sealOf (encMsg m)
def logB (ms : List Msg) : List Int := (ms.map recOf).flatten
theorem recOf_len (m : Msg) : (recOf m).length = 8 + (encMsg m).length := sealOf_len _
theorem logB_nil : logB [] = [] := rfl
theorem logB_cons (m : Msg) (ms : List Msg) : logB (m :: ms) = recOf m ++ logB ms := rfl
theorem logB_snoc (ms : List Msg) (m : Msg) : logB (ms ++ [m]) = logB ms ++ recOf m := by simp [logB]
theorem recOf_isB (m : Msg) : isB (recOf m) := sealOf_isB _ (encMsg_bytes m)
theorem logB_isB (ms : List Msg) : isB (logB ms) := by
  intro x hx
  obtain ⟨l, hl, hx⟩ := List.mem_flatten.1 hx
  obtain ⟨m, _, rfl⟩ := List.mem_map.1 hl
  exact recOf_isB m x hx
/-- The messages of payloads, up to the first that is none, and how many bytes their records have. -/
def decAll : List (List Int) → List Msg × Nat
  | [] => ([], 0)
  | p :: ps => match rDec p with
    | .ok m => (m :: (decAll ps).1, 8 + p.length + (decAll ps).2)
    | .error _ => ([], 0)
theorem decAll_ok {p : List Int} {m : Msg} (ps : List (List Int)) (h : rDec p = .ok m) : decAll (p :: ps) = (m :: (decAll ps).1, 8 + p.length + (decAll ps).2) := by
  conv => lhs; unfold decAll
  rw [h]
theorem decAll_bad {p : List Int} {c : Int} (ps : List (List Int)) (h : rDec p = .error c) : decAll (p :: ps) = ([], 0) := by
  conv => lhs; unfold decAll
  rw [h]
/-- What a log's bytes tell. -/
def logRead (xs : List Int) : List Msg × Nat := decAll (cutOf xs).1
theorem logRead_nil : logRead [] = ([], 0) := by unfold logRead; rw [cutOf_nil]; rfl
theorem logRead_cons (m : Msg) (h : GoodM m) (ys : List Int) : logRead (recOf m ++ ys) = (m :: (logRead ys).1, (recOf m).length + (logRead ys).2) := by
  unfold logRead recOf
  rw [cutOf_seal _ _ (encMsg_bytes m) h.len]
  rw [decAll_ok _ (dec_enc m h.ok h.fits h.len), sealOf_len]
theorem logRead_all : ∀ (ms : List Msg), (∀ m ∈ ms, GoodM m) → logRead (logB ms) = (ms, (logB ms).length)
  | [], _ => logRead_nil
  | m :: ms, h => by rw [logB_cons, logRead_cons m (h m (by simp)), logRead_all ms (fun x hx => h x (by simp [hx])), List.length_append]
/-- What is told is a beginning of the bytes. -/
theorem decAll_inv (n : Nat) : ∀ xs : List Int, xs.length ≤ n → isB xs → (∀ m ∈ (logRead xs).1, GoodM m) ∧ (logRead xs).2 = (logB (logRead xs).1).length ∧ xs.take (logRead xs).2 = logB (logRead xs).1 ∧ (logRead xs).2 ≤ xs.length := by
  induction n with
  | zero =>
    intro xs hl _
    have : xs = [] := List.eq_nil_of_length_eq_zero (by omega)
    subst this
    rw [logRead_nil]
    exact ⟨by simp, rfl, rfl, Nat.le_refl _⟩
  | succ n ih =>
    intro xs hl hb
    by_cases h0 : xs.length = 0
    · have : xs = [] := List.eq_nil_of_length_eq_zero h0
      subst this
      rw [logRead_nil]
      exact ⟨by simp, rfl, rfl, Nat.le_refl _⟩
    · by_cases ho : openErr xs = 0
      · obtain ⟨v, hv, hv1, hv2, hend, htl, hseal⟩ := seal_open xs hb ho
        have hstep := cutOf_step xs h0 ho
        rw [hv, Int.toNat_natCast] at hstep
        have hd : isB (xs.drop (8 + v)) := fun x hx => hb x (List.mem_of_mem_drop hx)
        obtain ⟨i1, i2, i3, i4⟩ := ih (xs.drop (8 + v)) (by rw [List.length_drop]; omega) hd
        cases hdec : rDec (openTxt xs) with
        | error c =>
          have hr : logRead xs = ([], 0) := by unfold logRead; rw [hstep]; exact decAll_bad _ hdec
          rw [hr]
          exact ⟨by simp, rfl, rfl, Nat.zero_le _⟩
        | ok m =>
          have hr : logRead xs = (m :: (logRead (xs.drop (8 + v))).1, 8 + v + (logRead (xs.drop (8 + v))).2) := by
            conv => lhs; unfold logRead
            rw [hstep]
            show decAll (openTxt xs :: _) = _
            rw [decAll_ok _ hdec, htl]
            rfl
          obtain ⟨d1, d2, d3, d4⟩ := dec_inv _ m (openTxt_isB xs hb) hdec
          have hrec : recOf m = xs.take (8 + v) := by unfold recOf; rw [d3, hseal]
          have hrl : (recOf m).length = 8 + v := by rw [hrec, List.length_take]; omega
          rw [hr]
          refine ⟨?_, ?_, ?_, ?_⟩
          · intro x hx
            rcases List.mem_cons.1 hx with rfl | hx
            · exact ⟨d1, d2, by rw [d3]; exact d4⟩
            · exact i1 x hx
          · show 8 + v + _ = _
            rw [logB_cons, List.length_append, hrl, ← i2]
          · show xs.take (8 + v + _) = _
            rw [List.take_add, i3, ← hrec, logB_cons]
          · show 8 + v + _ ≤ _
            rw [List.length_drop] at i4
            omega
      · have : logRead xs = ([], 0) := by unfold logRead; rw [cutOf_bad xs h0 ho]; rfl
        rw [this]
        exact ⟨by simp, rfl, rfl, Nat.zero_le _⟩
theorem logRead_inv (xs : List Int) (hb : isB xs) : (∀ m ∈ (logRead xs).1, GoodM m) ∧ (logRead xs).2 = (logB (logRead xs).1).length ∧ xs.take (logRead xs).2 = logB (logRead xs).1 ∧ (logRead xs).2 ≤ xs.length := decAll_inv xs.length xs (Nat.le_refl _) hb
end Go.Proofs.Ytckdkbjobipniaa
