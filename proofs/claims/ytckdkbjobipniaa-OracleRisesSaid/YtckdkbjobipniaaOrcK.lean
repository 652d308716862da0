/- More of the plain law of the oracle; an oracle's memory opened and shut. -/
import Derived.Test.YtckdkbjobipniaaOrcL
set_option linter.unusedVariables false
set_option linter.unusedSimpArgs false
namespace Go.Proofs.Ytckdkbjobipniaa
open Go.RowKit Go.Maps Go.Proofs.YtckdkbjobipniaaW.PrintWords Go.Proofs.YtckdkbjobipniaaW.PrintLast
theorem opend_rise {s : Orc} (h : OrcOk s) : (opend s).Pairwise fun x y => x.rev < y.rev := h.rise.filter _
theorem closed_pend {s : Orc} (h : OrcOk s) {x : Iss} (hx : x ∈ opend s) : oclosed s < x.rev := by
  have hp := opend_rise h
  unfold oclosed
  cases hl : opend s with
  | nil => rw [hl] at hx; simp at hx
  | cons y l =>
    rw [hl] at hx hp
    show y.rev - 1 < x.rev
    rcases List.mem_cons.1 hx with rfl | hx
    · omega
    · have := (List.pairwise_cons.1 hp).1 x hx
      omega
theorem closed_last {s : Orc} (h : OrcOk s) : oclosed s ≤ olast s := by
  unfold oclosed
  cases hl : opend s with
  | nil => exact Int.le_refl _
  | cons y l =>
    have := olast_ge h y (List.mem_filter.1 (show y ∈ opend s by rw [hl]; simp)).1
    show y.rev - 1 ≤ olast s
    omega
theorem closed_new {s : Orc} (h : OrcOk s) {a id : Int} (h0 : orev s id = 0) : oclosed ⟨s.iss ++ [⟨a, id, olast s + 1⟩], s.done⟩ = oclosed s := by
  have e := orcC_snoc h (a := a) (rev := olast s + 1) h0
  unfold oclosed
  rw [e]
  cases hl : opend s with
  | nil => show olast s + 1 - 1 = olast s; omega
  | cons y l => rfl
theorem closed_res {s : Orc} (h : OrcOk s) {m : Msg} (hk : m.kind = 2) : oclosed s ≤ oclosed (oreplay s m) := by
  obtain ⟨h1, h2⟩ := oreplay_two h hk
  have e : olast (oreplay s m) = olast s := by unfold olast; rw [h1]
  cases hl : opend (oreplay s m) with
  | nil =>
    have : oclosed (oreplay s m) = olast (oreplay s m) := by unfold oclosed; rw [hl]
    rw [this, e]
    exact closed_last h
  | cons y l =>
    have hy : y ∈ opend s := by
      have : y ∈ opend (oreplay s m) := by rw [hl]; simp
      rw [h2] at this
      exact (List.mem_filter.1 this).1
    have h3 := closed_pend h hy
    have : oclosed (oreplay s m) = y.rev - 1 := by unfold oclosed; rw [hl]
    rw [this]
    omega
theorem MapIs.again {g : Lit → Option Value} {s : Orc} (h : MapIs g s) {id r : Int} (hr : orev s id = r) (h0 : r ≠ 0) : MapIs (putF g (.int .i64 id) (.int .i64 r)) s := by
  intro j
  by_cases e : j = id
  · subst e
    rw [putF_same, hr, if_neg h0]
  · rw [putF_other _ _ _ _ (fun h => e (by injection h))]
    exact h j
theorem settle_law {ms ms2 : List Msg} {room id k : Int} (h : osettle ms room id = (ms2, k)) (hs : OrcMs ms room) (hl : olast (oopen ms) ≤ ms.length) (h1 : i64r id) :
    OrcMs ms2 room ∧ olast (oopen ms2) ≤ ms2.length ∧ (oopen ms2).iss = (oopen ms).iss ∧ oclosed (oopen ms) ≤ oclosed (oopen ms2) ∧ (k = 4 ↔ orev (oopen ms) id = 0) := by
  unfold osettle at h
  by_cases hv : orev (oopen ms) id = 0
  · rw [if_pos hv] at h
    injection h with e1 e2
    subst e1 e2
    exact ⟨hs, hl, rfl, Int.le_refl _, ⟨fun _ => hv, fun _ => rfl⟩⟩
  · rw [if_neg hv] at h
    by_cases hd : id ∈ (oopen ms).done
    · rw [if_pos hd] at h
      injection h with e1 e2
      subst e1 e2
      exact ⟨hs, hl, rfl, Int.le_refl _, ⟨fun h => absurd h (by decide), fun h => absurd h hv⟩⟩
    · rw [if_neg hd] at h
      have hg := resM_good h1
      by_cases hz : addErr (resM id) (logB ms).length room = 0
      · rw [if_pos hz] at h
        injection h with e1 e2
        subst e1 e2
        obtain ⟨a1, a2⟩ := oreplay_two (oopen_ok ms) (m := resM id) rfl
        refine ⟨hs.snoc hg.ok hz, ?_, ?_, ?_, ⟨fun h => absurd h (by decide), fun h => absurd h hv⟩⟩
        · rw [oopen_snoc]
          have : olast (oreplay (oopen ms) (resM id)) = olast (oopen ms) := by unfold olast; rw [a1]
          rw [this, List.length_append]
          push_cast
          omega
        · rw [oopen_snoc]; exact a1
        · rw [oopen_snoc]; exact closed_res (oopen_ok ms) rfl
      · rw [if_neg hz] at h
        injection h with e1 e2
        rcases addErr_good2 hg (logB ms).length room with h4 | h4
        · exact absurd h4 hz
        · rw [h4] at e2
          subst e1 e2
          exact ⟨hs, hl, rfl, Int.le_refl _, ⟨fun h => absurd h (by decide), fun h => absurd h hv⟩⟩
theorem MapIs.iss {g : Lit → Option Value} {s s' : Orc} (h : MapIs g s) (e : s'.iss = s.iss) : MapIs g s' := fun id => by have := h id; unfold orev at this ⊢; rw [e]; exact this
section
variable {w0 w : World} {F : HP} {o p : Nat} {ms : List Msg} {room : Int}
theorem orcOn_open (h : OrcOn w0 w F o p ms room) : ∃ G, Hw w0 w (F * G) ∧ ∀ (w' : World) (F' : HP), Hw w0 w' (F' * G) → OrcOn w0 w' F' o p ms room := by
  obtain ⟨q, mb, A, n, c, g, h1, h2, H⟩ := h
  refine ⟨orcB o q mb A n c (olast (oopen ms)) * (mapHP Try.prog 2 mb g (oopen ms).iss.length * (orcC A n c (oopen ms) * (logP q p (ms.length : Nat) * disk p (logB ms) ((logB ms).length : Int) room))), H.as (by ac_rfl), fun w' F' H' => ⟨q, mb, A, n, c, g, h1, h2, H'.as (by ac_rfl)⟩⟩
theorem OrcOn.as {G : HP} (h : OrcOn w0 w F o p ms room) (e : F = G) : OrcOn w0 w G o p ms room := e ▸ h
theorem OrcOn.drop {G : HP} (h : OrcOn w0 w (F * G) o p ms room) : OrcOn w0 w F o p ms room := by
  obtain ⟨G', H, back⟩ := orcOn_open h
  exact back _ _ (H.as (Q := F * G' * G) (by ac_rfl)).left
theorem closed_v (h : OrcOn w0 w F o p ms room) (hs : OrcMs ms room) (x : Int) (hx : oclosed (oopen ms) = x) : Calls Try.prog 45 #[.pointer (some ⟨o, 0, none⟩)] w fun e w' => e = .returned (.int .i64 x) ∧ w' = w := by
  subst hx
  exact oclosed_on h hs
theorem pending_on (h : OrcOn w0 w F o p ms room) (hs : OrcMs ms room) (n : Nat) (hn : (opend (oopen ms)).length = n) : Calls Try.prog 48 #[.pointer (some ⟨o, 0, none⟩)] w fun e w' =>
    ∃ (A : Option Addr) (c : Nat), e = .returned (.slice A n c) ∧ OrcOn w0 w' (crow 12 27 A n c (issCells (opend (oopen ms))) * F) o p ms room := by
  subst hn
  obtain ⟨q, h⟩ := h
  refine (opending_run h (by have h1 := opend_len (oopen ms); have h2 := oopen_len ms; have h3 := hs.cnt; omega)).mono ?_
  rintro e w' ⟨A, c, rfl, h2⟩
  exact ⟨A, c, rfl, q, orc_frame h2 (by show (_ : HP) * _ = _; unfold issCells; ac_rfl)⟩
end
end Go.Proofs.Ytckdkbjobipniaa
