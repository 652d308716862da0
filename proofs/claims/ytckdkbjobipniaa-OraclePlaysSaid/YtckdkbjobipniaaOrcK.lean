/- More of the plain law of the oracle; an oracle's memory opened and shut. -/
import Derived.Test.YtckdkbjobipniaaOrcL
set_option linter.unusedVariables false
set_option linter.unusedSimpArgs false
namespace Go.Proofs.Ytckdkbjobipniaa
open Go.RowKit Go.Maps Go.Proofs.YtckdkbjobipniaaW.PrintWords Go.Proofs.YtckdkbjobipniaaW.PrintLast
theorem MapIs.again {g : Lit → Option Value} {s : Orc} (h : MapIs g s) {id r : Int} (hr : orev s id = r) (h0 : r ≠ 0) : MapIs (putF g (.int .i64 id) (.int .i64 r)) s := by
  intro j
  by_cases e : j = id
  · subst e
    rw [putF_same, hr, if_neg h0]
  · rw [putF_other _ _ _ _ (fun h => e (by injection h))]
    exact h j
theorem MapIs.iss {g : Lit → Option Value} {s s' : Orc} (h : MapIs g s) (e : s'.iss = s.iss) : MapIs g s' := fun id => by have := h id; unfold orev at this ⊢; rw [e]; exact this
section
variable {w0 w : World} {F : HP} {o p : Nat} {ms : List Msg} {room : Int}
theorem orcOn_open (h : OrcOn w0 w F o p ms room) : ∃ G, Hw w0 w (F * G) ∧ ∀ (w' : World) (F' : HP), Hw w0 w' (F' * G) → OrcOn w0 w' F' o p ms room := by
  obtain ⟨q, mb, A, n, c, g, h1, h2, H⟩ := h
  refine ⟨orcB o q mb A n c (olast (oopen ms)) * (mapHP Try.prog 2 mb g (oopen ms).iss.length * (orcC A n c (oopen ms) * (logP q p (ms.length : Nat) * disk p (logB ms) ((logB ms).length : Int) room))), H.as (by ac_rfl), fun w' F' H' => ⟨q, mb, A, n, c, g, h1, h2, H'.as (by ac_rfl)⟩⟩
theorem OrcOn.as {G : HP} (h : OrcOn w0 w F o p ms room) (e : F = G) : OrcOn w0 w G o p ms room := e ▸ h
theorem OrcOn.drop {G : HP} (h : OrcOn w0 w (F * G) o p ms room) : OrcOn w0 w F o p ms room := by
  obtain ⟨G', H, back⟩ := orcOn_open h
  exact back _ _ (H.as (Q := F * G' * G) (by ac_rfl)).left
theorem closed_v (h : OrcOn w0 w F o p ms room) (hs : OrcMs ms room) (x : Int) (hx : oclosed (oopen ms) = x) : Calls Try.prog 45 #[.pointer (some ⟨o, 0, none⟩)] w fun e w' => e = .returned (.int .i64 x) ∧ w' = w := by
  subst hx
  exact oclosed_on h hs
theorem pending_on (h : OrcOn w0 w F o p ms room) (hs : OrcMs ms room) (n : Nat) (hn : (opend (oopen ms)).length = n) : Calls Try.prog 48 #[.pointer (some ⟨o, 0, none⟩)] w fun e w' =>
    ∃ (A : Option Addr) (c : Nat), e = .returned (.slice A n c) ∧ OrcOn w0 w' (crow 12 27 A n c (issCells (opend (oopen ms))) * F) o p ms room := by
  subst hn
  obtain ⟨q, h⟩ := h
  refine (opending_run h (by have h1 := opend_len (oopen ms); have h2 := oopen_len ms; have h3 := hs.cnt; omega)).mono ?_
  rintro e w' ⟨A, c, rfl, h2⟩
  exact ⟨A, c, rfl, q, orc_frame h2 (by show (_ : HP) * _ = _; unfold issCells; ac_rfl)⟩
end
end Go.Proofs.Ytckdkbjobipniaa
