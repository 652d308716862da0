/- The plain law of the oracle's issues where every record is the oracle's own; the disk's Size and Durable under an oracle; the kinds of its statements. -/
import Derived.Test.YtckdkbjobipniaaOrcW
import Derived.Test.YtckdkbjobipniaaCC
set_option linter.unusedVariables false
set_option linter.unusedSimpArgs false
namespace Go.Proofs.Ytckdkbjobipniaa
open Go.RowKit Go.Proofs.YtckdkbjobipniaaW.PrintWords Go.Proofs.YtckdkbjobipniaaW.PrintLast
theorem copens_nums64 : Opens Try.prog 75 (Kd.slice 2 (Kd.int .i64)) (fun xs => xs.length * 8 ≤ 140737488351232 ∧ ∀ x ∈ xs, (Lit.int .i64 x).wf = true) (fun xs => (xs.map fun _ => 1).sum + 1) :=
  opens_slice Try.underlying75 (by kernel_rfl) (by kernel_rfl) (opens_int Try.underlying2 (by kernel_rfl))
abbrev TP := Int × Int × Int × TM0
abbrev KOp14 := Kd.pair (Kd.int .i64) (Kd.pair (Kd.int .i64) (Kd.pair (Kd.int .i64) KMsg))
def sP2 (y : Int × TM0) : Prop := cS y.1 ∧ sM0 y.2
def mP2 (y : Int × TM0) : Nat := 1 + (mM0 y.2 + 1)
def sP1 (y : Int × Int × TM0) : Prop := cS y.1 ∧ sP2 y.2
def mP1 (y : Int × Int × TM0) : Nat := 1 + mP2 y.2
def sP0 (y : TP) : Prop := cS y.1 ∧ sP1 y.2
def mP0 (y : TP) : Nat := 1 + mP1 y.2
theorem copens_op14 : Opens Try.prog 80 KOp14 sP0 (fun y => mP0 y + 1) :=
  opens_struct (n := 15) (mu := mP0) Try.underlying80 (by kernel_rfl)
    (opensF_cons (S := cS) (S' := sP1) (mu := fun _ => 1) (mu' := mP1) (n := 1) (m := 14) rfl (by kernel_rfl) copens_int
      (opensF_cons (S := cS) (S' := sP2) (mu := fun _ => 1) (mu' := mP2) (n := 1) (m := 13) rfl (by kernel_rfl) copens_int
        (opensF_cons (S := cS) (S' := sM0) (mu := fun _ => 1) (mu' := fun y => mM0 y + 1) (n := 1) (m := 12) rfl (by kernel_rfl) copens_i64
          (opensF_one (n := 12) rfl (by kernel_rfl) copens_msg))))
theorem copens_ops14 : Opens Try.prog 72 (Kd.slice 80 KOp14) (fun l => l.length * 184 ≤ 140737488351232 ∧ ∀ y ∈ l, sP0 y) (fun l => (l.map (fun y => mP0 y + 1)).sum + 1) := opens_slice Try.underlying72 (by kernel_rfl) (by kernel_rfl) copens_op14
theorem i64r_wfP {x : Int} (h : (Lit.int .i64 x).wf = true) : i64r x := by
  have h2 := h
  simp only [Lit.wf, Bool.and_eq_true, decide_eq_true_eq] at h2
  exact h2
structure OpP where
  kind : Int
  src : Int
  id : Int
  x : MH
abbrev opP (o : OpP) : List Value := .int .i64 o.kind :: .int .i64 o.src :: .int .i64 o.id :: mhC o.x
structure OpPOk (w : World) (o : OpP) : Prop where
  c : o.x.C w
  ok : MsgOk o.x.m
  src : i64r o.src
  id : i64r o.id
theorem op14_at {w : World} {A : Option Addr} {n : Nat} {ys : List TP} (h : KOp14.C w A n ys) (hS : ∀ y ∈ ys, sP0 y) (k : Nat) (hk : k < n) :
    ∃ ad o, A = some ad ∧ Aside0 (OpPOk w o) ∧ (∀ i u, (opP o)[i]? = some u → w.cell? (ad.add (k * 15 + i)) = some u) := by
  obtain ⟨ad, e, hc⟩ := h.2.2 (by omega)
  have hl : k < ys.length := by have := h.1; omega
  obtain ⟨y, hy⟩ : ∃ y, ys[k]? = some y := ⟨_, List.getElem?_eq_getElem hl⟩
  obtain ⟨cs, hs, hK, hcell⟩ := hc k y hy
  have hS1 := hS y (List.mem_of_getElem? hy)
  obtain ⟨ki, sr, id, ym⟩ := y
  obtain ⟨h0, h1, h2, hm⟩ := hS1
  obtain ⟨c0, c1, rfl, g0, c2, c3, rfl, g2, c4, c5, rfl, g4, g5⟩ := hK
  have g0 : c0 = [.int .i64 ki] := g0
  have g2 : c2 = [.int .i64 sr] := g2
  have g4 : c4 = [.int .i64 id] := g4
  obtain ⟨s1, s2, s3, s4, hv, hM, hO, hL⟩ := msg_open (cs := c5.toArray) (by simpa using g5) hm
  have hcs : c5 = mhC ⟨msgOf ym, s1, s2, s3, s4⟩ := by
    injection hv with hv
    have := congrArg Array.toList hv
    simpa using this
  subst g0 g2 g4
  refine ⟨ad, ⟨ki, sr, id, ⟨msgOf ym, s1, s2, s3, s4⟩⟩, e, ⟨⟨hM, hO, ?_, ?_⟩⟩, fun i u hu => hcell i u ?_⟩
  · have h7 : (Lit.int .i64 sr).wf = true := h1
    exact i64r_wfP h7
  · have h7 : (Lit.int .i64 id).wf = true := h2
    exact i64r_wfP h7
  · rw [hcs]
    exact hu
/-- A step of Issue where no revision is above the number of records. -/
theorem ask_law {ms ms2 : List Msg} {room id src r k : Int} (h : oask ms room id src = (ms2, r, k)) (hs : OrcMs ms room) (hl : olast (oopen ms) ≤ ms.length) (h1 : i64r id) (h2 : i64r src) :
    OrcMs ms2 room ∧ olast (oopen ms2) ≤ ms2.length ∧ (k = 0 ∧ orev (oopen ms) id ≠ 0 ∧ ms2 = ms ∧ r = orev (oopen ms) id ∨
      k = 0 ∧ orev (oopen ms) id = 0 ∧ r = olast (oopen ms) + 1 ∧ ms2 = ms ++ [newM id src r] ∨ k = 3 ∧ orev (oopen ms) id = 0 ∧ r = 0 ∧ ms2 = ms) := by
  have hc := hs.cnt
  have h0 := hs.last.1
  unfold oask at h
  by_cases hv : orev (oopen ms) id = 0
  · rw [if_neg (fun hh => hh hv), if_neg (by omega)] at h
    have hr : i64r (olast (oopen ms) + 1) := by unfold i64r; omega
    have hg := newM_good h1 h2 hr
    by_cases hz : addErr (newM id src (olast (oopen ms) + 1)) (logB ms).length room = 0
    · rw [if_pos hz] at h
      injection h with e1 e2
      injection e2 with e2 e3
      subst e1 e2 e3
      refine ⟨hs.snoc hg.ok hz, ?_, .inr (.inl ⟨rfl, hv, rfl, rfl⟩)⟩
      rw [oopen_snoc, oreplay_new hv (by omega), olast_snoc, List.length_append]
      show olast (oopen ms) + 1 ≤ ((ms.length + 1 : Nat) : Int)
      omega
    · rw [if_neg hz] at h
      injection h with e1 e2
      injection e2 with e2 e3
      rcases addErr_good2 hg (logB ms).length room with h4 | h4
      · exact absurd h4 hz
      · rw [h4] at e3
        subst e1 e2 e3
        exact ⟨hs, hl, .inr (.inr ⟨rfl, hv, rfl, rfl⟩)⟩
  · rw [if_pos hv] at h
    injection h with e1 e2
    injection e2 with e2 e3
    subst e1 e2 e3
    exact ⟨hs, hl, .inl ⟨rfl, hv, rfl, rfl⟩⟩
theorem ask_rev {ms : List Msg} {room id src r : Int} (hs : OrcMs ms room) (hv : orev (oopen ms) id = 0) (hr : r = olast (oopen ms) + 1) : orev (oopen (ms ++ [newM id src r])) id = r := by
  have h0 := hs.last.1
  have hok := oreplay_ok (oopen_ok ms) (newM id src r)
  rw [oopen_snoc]
  rw [oreplay_new hv (by omega)] at hok ⊢
  exact orev_mem hok (x := ⟨src, id, r⟩) (by simp)
theorem ask_same {ms : List Msg} {room id src r : Int} (h : orev (oopen ms) id = r) (h0 : r ≠ 0) : oask ms room id src = (ms, r, 0) := by
  unfold oask
  rw [h, if_pos h0]
theorem rev_range {ms : List Msg} {id : Int} (h : orev (oopen ms) id ≠ 0) : 1 ≤ orev (oopen ms) id ∧ orev (oopen ms) id ≤ olast (oopen ms) := by
  have hok := oopen_ok ms
  have hh : ∃ x ∈ (oopen ms).iss, x.id = id := Classical.byContradiction fun hh => h ((orev_zero hok).2 fun x hx e => hh ⟨x, hx, e⟩)
  obtain ⟨x, hx, rfl⟩ := hh
  have h1 := hok.pos x hx
  have h2 := olast_ge hok x hx
  rw [orev_mem hok hx]
  omega
section
variable {w0 w : World} {F : HP} {o p : Nat} {ms : List Msg} {room : Int} {bytes : List Int} {dur : Int}
theorem size_w (h : Hw w0 w (disk p bytes dur room * F)) (k : Nat) (hk : bytes.length = k) :
    Calls Try.prog 50 #[.pointer (some ⟨p, 0, none⟩)] w fun e w' => e = .returned (.int .i64 k) ∧ w' = w := by
  subst hk
  obtain ⟨A, c, k0, k1, k2, hl, hc, hp, hh⟩ := disk_facts h
  have hm := hc.2.1
  clear hh h hc hl
  go_enter Try.func50, Try.ntmps50
  go_wp2
  go_ret
  exact ⟨rfl, rfl⟩
theorem durable_w (h : Hw w0 w (disk p bytes dur room * F)) :
    Calls Try.prog 34 #[.pointer (some ⟨p, 0, none⟩)] w fun e w' => e = .returned (.int .i64 dur) ∧ w' = w := by
  obtain ⟨A, c, k0, k1, k2, hl, hc, hp, hh⟩ := disk_facts h
  clear hh h hc hl
  go_enter Try.func34, Try.ntmps34
  go_wp2
  go_ret
  exact ⟨rfl, rfl⟩
theorem OrcOn.drew (h : OrcOn w0 w F o p ms room) : OrcOn w0 w.drew F o p ms room := by
  obtain ⟨q, mb, A, n, c, g, h1, h2, H⟩ := h
  exact ⟨q, mb, A, n, c, g, h1, h2, H.drew⟩
theorem osize_on (h : OrcOn w0 w F o p ms room) (k : Nat) (hk : (logB ms).length = k) : Calls Try.prog 50 #[.pointer (some ⟨p, 0, none⟩)] w fun e w' => e = .returned (.int .i64 k) ∧ w' = w := by
  obtain ⟨G, H⟩ := orc_disk h
  exact size_w H k hk
theorem odur_on (h : OrcOn w0 w F o p ms room) (k : Nat) (hk : (logB ms).length = k) : Calls Try.prog 34 #[.pointer (some ⟨p, 0, none⟩)] w fun e w' => e = .returned (.int .i64 k) ∧ w' = w := by
  obtain ⟨G, H⟩ := orc_disk h
  subst hk
  exact durable_w H
theorem olast_v (h : OrcOn w0 w F o p ms room) (x : Int) (hx : olast (oopen ms) = x) : Calls Try.prog 43 #[.pointer (some ⟨o, 0, none⟩)] w fun e w' => e = .returned (.int .i64 x) ∧ w' = w := by
  subst hx
  exact olast_on h
end
end Go.Proofs.Ytckdkbjobipniaa
