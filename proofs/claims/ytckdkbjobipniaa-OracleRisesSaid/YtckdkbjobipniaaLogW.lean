/- The bench of the log's statements answers true. -/
import Derived.Test.YtckdkbjobipniaaLogO
set_option linter.unusedVariables false
set_option linter.unusedSimpArgs false
namespace Go.Proofs.Ytckdkbjobipniaa
open Go.RowKit Go.Proofs.YtckdkbjobipniaaW.PrintWords Go.Proofs.YtckdkbjobipniaaW.PrintLast
/-- A message with a kind alone. -/
def kindM (k : Int) : Msg := ⟨k, 0, 0, 0, 0, 0, 0, false, [], [], [], []⟩
theorem encI_zero : encI 0 = [0] := by
  unfold encI zig
  rw [if_pos (by decide), venc_lt (by decide)]
  rfl
theorem kindM_len (k : Int) : (encMsg (kindM k)).length = (encI k).length + 11 := by
  unfold encMsg kindM Msg.ints enc1 enc2 enc4
  simp [encI_zero, bitN]
theorem kindM_ok (k : Int) (h : i64r k) : MsgOk (kindM k) := ⟨fun n hn => by
  simp only [kindM, Msg.ints, List.mem_cons, List.not_mem_nil, or_false] at hn
  rcases hn with rfl | rfl | rfl | rfl | rfl | rfl | rfl
  · exact h
  all_goals (unfold i64r; omega), fun n hn => by simp [kindM] at hn, fun n hn => by simp [kindM] at hn⟩
theorem kindM_fits (k : Int) : MsgFits (kindM k) := ⟨by simp [kindM], ⟨by simp [kindM], fun x hx => by simp [kindM] at hx⟩, ⟨by simp [kindM], fun x hx => by simp [kindM] at hx⟩, ⟨by simp [kindM], fun x hx => by simp [kindM] at hx⟩⟩
theorem kindM_good (k : Int) (h : i64r k) : GoodM (kindM k) := ⟨kindM_ok k h, kindM_fits k, by rw [kindM_len]; have := (encI_len k h).2; omega⟩
theorem kindM_C (w : World) (k : Int) : MsgC w (kindM k) nilH nilH nilH nilH := ⟨Kd.C_nil _ _, Kd.C_nil _ _, Kd.C_nil _ _, Kd.C_nil _ _⟩
theorem encI_one (k : Int) (h0 : 0 ≤ k) (h1 : k < 64) : (encI k).length = 1 := by
  unfold encI zig
  rw [if_pos h0, venc_lt (by omega)]
  rfl
theorem good_enc {m : Msg} (h : GoodM m) : encGood m = true := encGood_iff.2 ⟨h.fits, h.len⟩
theorem addErr_good {m : Msg} (h : GoodM m) (len : Nat) (room : Int) (hf : ((len + (recOf m).length : Nat) : Int) ≤ room) : addErr m len room = 0 := by
  unfold addErr
  rw [if_pos (good_enc h), if_neg (by omega)]
section
variable {w0 w : World} {F : HP} {q p : Nat} {k : Int} {bytes : List Int} {dur room : Int}
theorem ladd_good (m : Msg) (A1 A2 A3 A4 : Option Addr) (n1 n2 n3 n4 c1 c2 c3 c4 : Nat) (hC : MsgC w m (A1, n1, c1) (A2, n2, c2) (A3, n3, c3) (A4, n4, c4)) (hg : GoodM m)
    (h : Hw w0 w (logP q p k * (disk p bytes dur room * F))) (hr : 0 ≤ room) (hr2 : room ≤ 1048576) (hk : 0 ≤ k) (hk2 : k ≤ 1000000000000) (hf : ((bytes.length + (recOf m).length : Nat) : Int) ≤ room) :
    Calls Try.prog 21 #[.pointer (some ⟨q, 0, none⟩), msgV m (A1, n1, c1) (A2, n2, c2) (A3, n3, c3) (A4, n4, c4)] w fun e w' =>
      e = .returned (.int .i64 0) ∧ Hw w0 w' (logP q p (k + 1) * (disk p (bytes ++ recOf m) dur room * F)) := by
  refine (ladd_ok m A1 A2 A3 A4 n1 n2 n3 n4 c1 c2 c3 c4 hC hg.ok h hr hr2 hk hk2).mono ?_
  rintro e w' ⟨rfl, h1⟩
  have e0 := addErr_good hg bytes.length room hf
  unfold addB addK at h1
  rw [e0, if_pos rfl, if_pos rfl] at h1
  rw [e0]
  exact ⟨rfl, h1⟩
theorem lwrite_good (m : Msg) (A1 A2 A3 A4 : Option Addr) (n1 n2 n3 n4 c1 c2 c3 c4 : Nat) (hC : MsgC w m (A1, n1, c1) (A2, n2, c2) (A3, n3, c3) (A4, n4, c4)) (hg : GoodM m)
    (h : Hw w0 w (logP q p k * (disk p bytes dur room * F))) (hr : 0 ≤ room) (hr2 : room ≤ 1048576) (hk : 0 ≤ k) (hk2 : k ≤ 1000000000000) (hf : ((bytes.length + (recOf m).length : Nat) : Int) ≤ room) :
    Calls Try.prog 22 #[.pointer (some ⟨q, 0, none⟩), msgV m (A1, n1, c1) (A2, n2, c2) (A3, n3, c3) (A4, n4, c4)] w fun e w' =>
      e = .returned (.int .i64 0) ∧ Hw w0 w' (logP q p (k + 1) * (disk p (bytes ++ recOf m) ((bytes ++ recOf m).length : Int) room * F)) := by
  refine (lwrite_ok m A1 A2 A3 A4 n1 n2 n3 n4 c1 c2 c3 c4 hC hg.ok h hr hr2 hk hk2).mono ?_
  rintro e w' ⟨rfl, h1⟩
  have e0 := addErr_good hg bytes.length room hf
  unfold addD addB addK at h1
  rw [e0, if_pos rfl, if_pos rfl, if_pos rfl] at h1
  rw [e0]
  exact ⟨rfl, h1⟩
/-- What Open answers where a log was cut off: the records that lie whole ahead of the cut. -/
def CutPost (w0 : World) (F : HP) (p : Nat) (ms : List Msg) (room : Int) (e : Ending) (w' : World) : Prop := ∃ (q : Nat) (A : Option Addr) (n c : Nat) (l : List MH), e = .returned (.tuple #[.pointer (some ⟨q, 0, none⟩), .slice A n c]) ∧ l.map (·.m) = ms ∧ l.length = n ∧ n = ms.length ∧ (∀ x ∈ l, x.H) ∧ n ≤ 2097152 ∧
  Hw w0 w' (crow 12 27 A n c (l.flatMap mhC) * (msgsP l * (logP q p n * (disk p (logB ms) ((logB ms).length : Int) room * F))))
theorem lopen_cut (ms : List Msg) (j : Nat) (hg : ∀ m ∈ ms, GoodM m) (hj : j ≤ (logB ms).length) (hl : (logB ms).length ≤ 1048576) (h : Hw w0 w (disk p ((logB ms).take j) dur room * F)) :
    ∃ r, r ≤ ms.length ∧ (logB (ms.take r)).length ≤ j ∧ (r < ms.length → j < (logB (ms.take (r + 1))).length) ∧ Calls Try.prog 20 #[.pointer (some ⟨p, 0, none⟩)] w (CutPost w0 F p (ms.take r) room) := by
  obtain ⟨r, h1, h2, h3, h4⟩ := logRead_cut ms j hg hj
  refine ⟨r, h1, h2, h3, (lopen_ok (fun x hx => logB_isB ms x (List.mem_of_mem_take hx)) (by rw [List.length_take]; omega) h).mono ?_⟩
  rintro e w' ⟨q, A, n, c, l, rfl, g1, g2, g3, g4, g5⟩
  rw [h4] at g1 g5
  have g1' : l.map (·.m) = ms.take r := g1
  have e1 : ((logB ms).take j).take (logB (ms.take r)).length = logB (ms.take r) := by rw [List.take_take, Nat.min_eq_left h2, logB_take]
  rw [e1] at g5
  have hn : n = (ms.take r).length := by rw [← g2, ← g1', List.length_map]
  rw [List.length_take] at g4
  exact ⟨q, A, n, c, l, rfl, g1, g2, hn, g3, by omega, g5⟩
theorem lopen_logB (ms : List Msg) (hg : ∀ m ∈ ms, GoodM m) (hl : (logB ms).length ≤ 1048576) (h : Hw w0 w (disk p (logB ms) dur room * F)) :
    Calls Try.prog 20 #[.pointer (some ⟨p, 0, none⟩)] w (CutPost w0 F p ms room) := by
  refine (lopen_ok (logB_isB ms) (by omega) h).mono ?_
  rintro e w' ⟨q, A, n, c, l, rfl, g1, g2, g3, g4, g5⟩
  rw [logRead_all ms hg] at g1 g5
  have g1' : l.map (·.m) = ms := g1
  rw [List.take_length] at g5
  exact ⟨q, A, n, c, l, rfl, g1, g2, by rw [← g2, ← g1', List.length_map], g3, by omega, g5⟩
theorem cut_move {q p n : Nat} {A : Option Addr} {c : Nat} {l : List MH} {D : HP} (h : Hw w0 w (crow 12 27 A n c (l.flatMap mhC) * (msgsP l * (logP q p n * (D * F))))) : Hw w0 w (logP q p n * (D * (crow 12 27 A n c (l.flatMap mhC) * (msgsP l * F)))) := h.as (by ac_rfl)
/-- The list that Open has made, as one that is read. -/
theorem cut_msgs {n : Nat} {A : Option Addr} {c : Nat} {l : List MH} (h : Hw w0 w (crow 12 27 A n c (l.flatMap mhC) * (msgsP l * F))) (hn : l.length = n) (hm : n ≤ 2097152) (hh : ∀ x ∈ l, x.H) : MsgsC w A n l :=
  msgs_of h hn (by omega) (msgsP_C l (h.as (Q := msgsP l * (crow 12 27 A n c (l.flatMap mhC) * F)) (by ac_rfl)) hh)
end
theorem write_step {m : Msg} {ms : List Msg} {room : Int} (hm : MsgOk m) (hz : addErr m (logB ms).length room = 0) (k dur : Int) :
    GoodM m ∧ addB m (logB ms) room = logB (ms ++ [m]) ∧ addD m (logB ms) dur room = ((logB (ms ++ [m])).length : Int) ∧ addK m (logB ms).length room k = k + 1 ∧ ((logB (ms ++ [m])).length : Int) ≤ room := by
  obtain ⟨h1, h2⟩ := addErr_ok hz
  obtain ⟨g1, g2⟩ := encGood_iff.1 h1
  have e1 : addB m (logB ms) room = logB (ms ++ [m]) := by unfold addB; rw [if_pos hz, logB_snoc]
  refine ⟨⟨hm, g1, g2⟩, e1, by unfold addD; rw [if_pos hz, e1], by unfold addK; rw [if_pos hz], ?_⟩
  rw [logB_snoc, List.length_append]
  exact h2
theorem write_skip {m : Msg} {ms : List Msg} {room : Int} (hz : addErr m (logB ms).length room ≠ 0) (k dur : Int) :
    addB m (logB ms) room = logB ms ∧ addD m (logB ms) dur room = dur ∧ addK m (logB ms).length room k = k := by
  unfold addD addB addK
  rw [if_neg hz, if_neg hz, if_neg hz]
  exact ⟨rfl, rfl, rfl⟩
set_option maxHeartbeats 6400000 in
set_option maxRecDepth 100000 in
theorem lawake_ok (w : World) : Calls Try.prog 17 #[] w fun e w' => e = .returned (.bool true) ∧ Below w.heap.size w w' := by
  have r7 : (recOf (kindM 7)).length = 20 := by rw [recOf_len, kindM_len, encI_one 7 (by decide) (by decide)]
  have r8 : (recOf (kindM 8)).length = 20 := by rw [recOf_len, kindM_len, encI_one 8 (by decide) (by decide)]
  have R7 := Aside0.mk r7
  have R8 := Aside0.mk r8
  clear r7 r8
  have G7 := Aside0.mk (kindM_good 7 (by unfold i64r; omega))
  have G8 := Aside0.mk (kindM_good 8 (by unfold i64r; omega))
  go_enter Try.func17, Try.ntmps17
  go_wp2_with fail
  refine (new_ok 200 (by decide) (by decide) (Hw.start w)).mono ?_
  rintro e w1 ⟨p, rfl, h1⟩
  have H1 := Aside0.mk h1
  clear h1
  go_wp2_with fail
  refine (lopen_logB [] (fun m hm => by simp at hm) (by decide) H1.out).mono ?_
  rintro e w2 ⟨q, A, n, c, l, rfl, hl, hn, hn2, hh, _, h2⟩
  obtain rfl : n = 0 := hn2
  have H2 := Aside0.mk (cut_move h2)
  clear h2 hl hn hh H1
  go_wp2_with fail
  refine (lwrite_good (kindM 7) none none none none 0 0 0 0 0 0 0 0 (kindM_C _ 7) G7.out H2.out (by decide) (by decide) (by decide) (by decide) (by rw [R7.out]; decide)).mono ?_
  rintro e w3 ⟨rfl, h3⟩
  have H3 := Aside0.mk h3
  clear h3 H2
  go_wp2_with fail
  refine (ladd_good (kindM 8) none none none none 0 0 0 0 0 0 0 0 (kindM_C _ 8) G8.out H3.out (by decide) (by decide) (by decide) (by decide) (by rw [List.length_append, R7.out, R8.out]; decide)).mono ?_
  rintro e w4 ⟨rfl, h4⟩
  have H4 := Aside0.mk h4
  clear h4 H3
  go_wp2_with fail
  refine (lcount_ok H4.out).mono ?_
  rintro e w5 ⟨rfl, rfl⟩
  go_wp2_with fail
  have CR := Aside0.mk (crash_ok p _ _ 200 0 (H4.out.as (HP.left_comm _ _ _)) (by omega) (by simp only [List.length_append]; omega))
  refine CR.out.mono ?_
  rintro e w6 ⟨rfl, h6⟩
  have e6 : ((logB [] ++ recOf (kindM 7)) ++ recOf (kindM 8)).take (kept ((logB [] ++ recOf (kindM 7)).length : Int) 0 (((logB [] ++ recOf (kindM 7)) ++ recOf (kindM 8)).length : Int)).toNat = logB [kindM 7] := by
    rw [logB_nil, List.nil_append]
    have e1 : (kept ((recOf (kindM 7)).length : Int) 0 ((recOf (kindM 7) ++ recOf (kindM 8)).length : Int)).toNat = (recOf (kindM 7)).length := by
      unfold kept
      rw [if_neg (by decide), if_neg (by rw [List.length_append]; omega)]
      omega
    rw [e1, List.take_left]
    simp [logB]
  rw [e6] at h6
  have H6 := Aside0.mk h6
  have hl7 : (logB [kindM 7]).length = 20 := by simp [logB, R7.out]
  have L7 := Aside0.mk hl7
  clear h6 CR H4 e6 hl7
  go_wp2_with fail
  refine (lopen_logB [kindM 7] (fun m hm => by rw [List.mem_singleton] at hm; subst hm; exact G7.out) (by rw [L7.out]; decide) H6.out).mono ?_
  rintro e w7 ⟨q2, A2, n2, c2, l2, rfl, hl, hn, hn2, hh, hn3, h7⟩
  obtain rfl : n2 = 1 := hn2
  have MS := Aside0.mk (cut_msgs h7 hn hn3 hh)
  obtain ⟨ad, x, rfl, hx, _, QX⟩ := msgs_at MS.out 0 (by decide)
  have hx7 : x.m = kindM 7 := by
    have h1 : (l2.map (·.m))[0]? = some x.m := by rw [List.getElem?_map, hx.out]; rfl
    rw [hl] at h1
    injection h1 with h1
    exact h1.symm
  have qc : w7.cell? (ad.add 0) = some (.int .i64 7) := by have := QX.out.c0; rw [hx7] at this; exact this
  have qc' : w7.cell? ad = some (.int .i64 7) := by simpa [Addr.add] using qc
  have H7 := Aside0.mk (cut_move h7)
  clear h7 hl hn hh hn3 hx7 MS QX hx
  go_wp2_with fail
  refine (lcount_ok H7.out).mono ?_
  rintro e w8 ⟨rfl, rfl⟩
  go_wp2_with fail
  have LE := lleft_ok H7.out (by decide) (by decide)
  rw [L7.out] at LE
  refine LE.mono ?_
  rintro e w8 ⟨rfl, hd⟩
  have B8 := Aside0.mk (H7.out.drawn hd).below
  clear LE hd
  go_wp2_with fail
  go_ret
  exact ⟨rfl, B8.out⟩
end Go.Proofs.Ytckdkbjobipniaa
