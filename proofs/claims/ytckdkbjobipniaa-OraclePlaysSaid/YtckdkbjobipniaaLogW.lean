/- The bench of the log's statements answers true. -/
import Derived.Test.YtckdkbjobipniaaLogO
set_option linter.unusedVariables false
set_option linter.unusedSimpArgs false
namespace Go.Proofs.Ytckdkbjobipniaa
open Go.RowKit Go.Proofs.YtckdkbjobipniaaW.PrintWords Go.Proofs.YtckdkbjobipniaaW.PrintLast
theorem encI_zero : encI 0 = [0] := by
  unfold encI zig
  rw [if_pos (by decide), venc_lt (by decide)]
  rfl
theorem good_enc {m : Msg} (h : GoodM m) : encGood m = true := encGood_iff.2 ⟨h.fits, h.len⟩
theorem addErr_good {m : Msg} (h : GoodM m) (len : Nat) (room : Int) (hf : ((len + (recOf m).length : Nat) : Int) ≤ room) : addErr m len room = 0 := by
  unfold addErr
  rw [if_pos (good_enc h), if_neg (by omega)]
section
variable {w0 w : World} {F : HP} {q p : Nat} {k : Int} {bytes : List Int} {dur room : Int}
/-- What Open answers where a log was cut off: the records that lie whole ahead of the cut. -/
def CutPost (w0 : World) (F : HP) (p : Nat) (ms : List Msg) (room : Int) (e : Ending) (w' : World) : Prop := ∃ (q : Nat) (A : Option Addr) (n c : Nat) (l : List MH), e = .returned (.tuple #[.pointer (some ⟨q, 0, none⟩), .slice A n c]) ∧ l.map (·.m) = ms ∧ l.length = n ∧ n = ms.length ∧ (∀ x ∈ l, x.H) ∧ n ≤ 2097152 ∧
  Hw w0 w' (crow 12 27 A n c (l.flatMap mhC) * (msgsP l * (logP q p n * (disk p (logB ms) ((logB ms).length : Int) room * F))))
theorem lopen_logB (ms : List Msg) (hg : ∀ m ∈ ms, GoodM m) (hl : (logB ms).length ≤ 1048576) (h : Hw w0 w (disk p (logB ms) dur room * F)) :
    Calls Try.prog 20 #[.pointer (some ⟨p, 0, none⟩)] w (CutPost w0 F p ms room) := by
  refine (lopen_ok (logB_isB ms) (by omega) h).mono ?_
  rintro e w' ⟨q, A, n, c, l, rfl, g1, g2, g3, g4, g5⟩
  rw [logRead_all ms hg] at g1 g5
  have g1' : l.map (·.m) = ms := g1
  rw [List.take_length] at g5
  exact ⟨q, A, n, c, l, rfl, g1, g2, by rw [← g2, ← g1', List.length_map], g3, by omega, g5⟩
theorem cut_move {q p n : Nat} {A : Option Addr} {c : Nat} {l : List MH} {D : HP} (h : Hw w0 w (crow 12 27 A n c (l.flatMap mhC) * (msgsP l * (logP q p n * (D * F))))) : Hw w0 w (logP q p n * (D * (crow 12 27 A n c (l.flatMap mhC) * (msgsP l * F)))) := h.as (by ac_rfl)
/-- The list that Open has made, as one that is read. -/
theorem cut_msgs {n : Nat} {A : Option Addr} {c : Nat} {l : List MH} (h : Hw w0 w (crow 12 27 A n c (l.flatMap mhC) * (msgsP l * F))) (hn : l.length = n) (hm : n ≤ 2097152) (hh : ∀ x ∈ l, x.H) : MsgsC w A n l :=
  msgs_of h hn (by omega) (msgsP_C l (h.as (Q := msgsP l * (crow 12 27 A n c (l.flatMap mhC) * F)) (by ac_rfl)) hh)
end
theorem write_step {m : Msg} {ms : List Msg} {room : Int} (hm : MsgOk m) (hz : addErr m (logB ms).length room = 0) (k dur : Int) :
    GoodM m ∧ addB m (logB ms) room = logB (ms ++ [m]) ∧ addD m (logB ms) dur room = ((logB (ms ++ [m])).length : Int) ∧ addK m (logB ms).length room k = k + 1 ∧ ((logB (ms ++ [m])).length : Int) ≤ room := by
  obtain ⟨h1, h2⟩ := addErr_ok hz
  obtain ⟨g1, g2⟩ := encGood_iff.1 h1
  have e1 : addB m (logB ms) room = logB (ms ++ [m]) := by unfold addB; rw [if_pos hz, logB_snoc]
  refine ⟨⟨hm, g1, g2⟩, e1, by unfold addD; rw [if_pos hz, e1], by unfold addK; rw [if_pos hz], ?_⟩
  rw [logB_snoc, List.length_append]
  exact h2
theorem write_skip {m : Msg} {ms : List Msg} {room : Int} (hz : addErr m (logB ms).length room ≠ 0) (k dur : Int) :
    addB m (logB ms) room = logB ms ∧ addD m (logB ms) dur room = dur ∧ addK m (logB ms).length room k = k := by
  unfold addD addB addK
  rw [if_neg hz, if_neg hz, if_neg hz]
  exact ⟨rfl, rfl, rfl⟩
end Go.Proofs.Ytckdkbjobipniaa
