/- What OraclePlays' walk needs beside: an op with its sizes, a crash where all is durable, records that are written by anybody. -/
import Derived.Test.YtckdkbjobipniaaRefOrcE
import Derived.Test.YtckdkbjobipniaaKindsLogP
import Derived.Test.YtckdkbjobipniaaOrcS
set_option linter.unusedVariables false
set_option linter.unusedSimpArgs false
namespace Go.Proofs.Ytckdkbjobipniaa
open Go.RowKit Go.Proofs.YtckdkbjobipniaaW.PrintWords Go.Proofs.YtckdkbjobipniaaW.PrintLast
theorem op14_at2 {w : World} {A : Option Addr} {n : Nat} {ys : List TP} (h : KOp14.C w A n ys) (hS : ∀ y ∈ ys, sP0 y) (k : Nat) (hk : k < n) :
    ∃ ad o, A = some ad ∧ Aside0 (OpPOk w o) ∧ Aside0 (MsgSz o.x.m) ∧ (∀ i u, (opP o)[i]? = some u → w.cell? (ad.add (k * 15 + i)) = some u) := by
  obtain ⟨ad, e, hc⟩ := h.2.2 (by omega)
  have hl : k < ys.length := by have := h.1; omega
  obtain ⟨y, hy⟩ : ∃ y, ys[k]? = some y := ⟨_, List.getElem?_eq_getElem hl⟩
  obtain ⟨cs, hs, hK, hcell⟩ := hc k y hy
  have hS1 := hS y (List.mem_of_getElem? hy)
  obtain ⟨ki, sr, id, ym⟩ := y
  obtain ⟨h0, h1, h2, hm⟩ := hS1
  obtain ⟨c0, c1, rfl, g0, c2, c3, rfl, g2, c4, c5, rfl, g4, g5⟩ := hK
  have g0 : c0 = [.int .i64 ki] := g0
  have g2 : c2 = [.int .i64 sr] := g2
  have g4 : c4 = [.int .i64 id] := g4
  obtain ⟨s1, s2, s3, s4, hv, hM, hO, hL⟩ := msg_open (cs := c5.toArray) (by simpa using g5) hm
  have hcs : c5 = mhC ⟨msgOf ym, s1, s2, s3, s4⟩ := by
    injection hv with hv
    have := congrArg Array.toList hv
    simpa using this
  subst g0 g2 g4
  refine ⟨ad, ⟨ki, sr, id, ⟨msgOf ym, s1, s2, s3, s4⟩⟩, e, ⟨⟨hM, hO, ?_, ?_⟩⟩, ⟨msg_sz4 hm⟩, fun i u hu => hcell i u ?_⟩
  · have h7 : (Lit.int .i64 sr).wf = true := h1
    exact i64r_wfP h7
  · have h7 : (Lit.int .i64 id).wf = true := h2
    exact i64r_wfP h7
  · rw [hcs]
    exact hu
theorem ask_ms {ms ms2 : List Msg} {room id src r k : Int} (h : oask ms room id src = (ms2, r, k)) (hs : OrcMs ms room) (h1 : i64r id) (h2 : i64r src) : OrcMs ms2 room := by
  have h0 := hs.last
  unfold oask at h
  by_cases hv : orev (oopen ms) id = 0
  · rw [if_neg (fun hh => hh hv)] at h
    by_cases hm : 1125899906842624 ≤ olast (oopen ms)
    · rw [if_pos hm] at h
      injection h with e1 e2
      subst e1
      exact hs
    · rw [if_neg hm] at h
      have hr : i64r (olast (oopen ms) + 1) := by unfold i64r; omega
      have hg := newM_good h1 h2 hr
      by_cases hz : addErr (newM id src (olast (oopen ms) + 1)) (logB ms).length room = 0
      · rw [if_pos hz] at h
        injection h with e1 e2
        subst e1
        exact hs.snoc hg.ok hz
      · rw [if_neg hz] at h
        injection h with e1 e2
        subst e1
        exact hs
  · rw [if_pos hv] at h
    injection h with e1 e2
    subst e1
    exact hs
theorem settle_ms {ms ms2 : List Msg} {room id k : Int} (h : osettle ms room id = (ms2, k)) (hs : OrcMs ms room) (h1 : i64r id) : OrcMs ms2 room := by
  unfold osettle at h
  by_cases hv : orev (oopen ms) id = 0
  · rw [if_pos hv] at h
    injection h with e1 e2
    subst e1
    exact hs
  · rw [if_neg hv] at h
    by_cases hd : id ∈ (oopen ms).done
    · rw [if_pos hd] at h
      injection h with e1 e2
      subst e1
      exact hs
    · rw [if_neg hd] at h
      by_cases hz : addErr (resM id) (logB ms).length room = 0
      · rw [if_pos hz] at h
        injection h with e1 e2
        subst e1
        exact hs.snoc (resM_good h1).ok hz
      · rw [if_neg hz] at h
        injection h with e1 e2
        subst e1
        exact hs
theorem wr2_all {ms : List Msg} {m : Msg} {room : Int} (hs : OrcMs ms room) (hm : MsgOk m) : OrcMs (wr2 ms m room) room ∧ addB m (logB ms) room = logB (wr2 ms m room) ∧ addD m (logB ms) ((logB ms).length : Int) room = ((logB (wr2 ms m room)).length : Int) := by
  unfold wr2
  by_cases hz : addErr m (logB ms).length room = 0
  · rw [if_pos hz]
    obtain ⟨g1, g2, g3, g4, g5⟩ := write_step hm hz 0 ((logB ms).length : Int)
    exact ⟨hs.snoc hm hz, g2, g3⟩
  · rw [if_neg hz]
    obtain ⟨g2, g3, g4⟩ := write_skip hz 0 ((logB ms).length : Int)
    exact ⟨hs, g2, g3⟩
section
variable {w0 w w' : World} {F : HP} {o p : Nat} {ms : List Msg} {room : Int} {bytes : List Int}
theorem OrcOn.from_below (h : OrcOn w0 w F o p ms room) (hb : Below w.heap.size w w') : OrcOn w0 w' F o p ms room := by
  obtain ⟨q, mb, A, n, c, g, h1, h2, H⟩ := h
  exact ⟨q, mb, A, n, c, g, h1, h2, H.from_below hb⟩
theorem OrcOn.trans {P : HP} (h : OrcOn w0 w F o p ms room) (g : Hw w w' P) : OrcOn w0 w' (P * F) o p ms room := by
  obtain ⟨q, mb, A, n, c, gg, h1, h2, H⟩ := h
  exact ⟨q, mb, A, n, c, gg, h1, h2, (H.trans g).as (by ac_rfl)⟩
theorem obytes_on (h : OrcOn w0 w F o p ms room) (n : Nat) (hn : (logB ms).length = n) (hb : n ≤ 1048576) : Calls Try.prog 33 #[.pointer (some ⟨p, 0, none⟩)] w fun e w' => ∃ AA cc, e = .returned (.slice AA n cc) ∧ OrcOn w0 w' (row (Kd.int .u8) 5 (.slice AA n cc) (logB ms) * F) o p ms room := by
  obtain ⟨q, mb, A, k, c, g, h1, h2, H⟩ := h
  refine (bytes_n p (logB ms) ((logB ms).length : Int) room n hn (by omega) (H.as (by ac_rfl : _ = disk p (logB ms) ((logB ms).length : Int) room * (orcB o q mb A k c (olast (oopen ms)) * (mapHP Try.prog 2 mb g (oopen ms).iss.length * (orcC A k c (oopen ms) * (logP q p (ms.length : Nat) * F))))))).mono ?_
  rintro e w' ⟨AA, cc, rfl, hc1, h8⟩
  exact ⟨AA, cc, rfl, q, mb, A, k, c, g, h1, h2, h8.as (by ac_rfl)⟩
theorem crash_all (h : Hw w0 w (disk p bytes (bytes.length : Int) room * F)) : Calls Try.prog 26 #[.pointer (some ⟨p, 0, none⟩), .int .i64 0] w fun e w' => e = .returned (.tuple #[]) ∧ Hw w0 w' (disk p bytes (bytes.length : Int) room * F) := by
  refine (crash_ok p bytes _ room 0 h (by omega) (Int.le_refl _)).mono ?_
  rintro e w' ⟨rfl, h2⟩
  have e1 : (kept (bytes.length : Int) 0 (bytes.length : Int)).toNat = bytes.length := by
    unfold kept
    rw [if_neg (by decide), if_neg (by omega)]
    omega
  rw [e1, List.take_length] at h2
  exact ⟨rfl, h2⟩
end
end Go.Proofs.Ytckdkbjobipniaa
