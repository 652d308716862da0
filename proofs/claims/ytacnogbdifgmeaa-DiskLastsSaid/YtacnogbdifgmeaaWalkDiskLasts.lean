/- DiskLasts' walk. -/
import Derived.Test.YtacnogbdifgmeaaDiskOne
set_option linter.unusedVariables false
set_option linter.unusedSimpArgs false
namespace Go.Proofs.Ytacnogbdifgmeaa
open Go.RowKit Go.Proofs.YtacnogbdifgmeaaW.PrintWords Go.Proofs.YtacnogbdifgmeaaW.PrintMore

theorem C_max' {α : Type} {d : Kd α} {w : World} {A : Option Addr} {n : Nat} {xs : List α} (h : d.C w A n xs) : n ≤ 9223372036854775807 := h.2.1

/-- What a crash leaves behind two appends, the first made durable. -/
theorem kept_two (xs ys : List Int) (keep : Int) : ∃ j : Nat, j ≤ ys.length ∧ (xs ++ ys).take (kept xs.length keep (xs ++ ys).length).toNat = xs ++ ys.take j ∧ (keep ≤ 0 ∧ j = 0 ∨ ys.length ≤ keep ∧ j = ys.length ∨ (j : Int) = keep) := by
  have hl : ((xs ++ ys).length : Int) = xs.length + ys.length := by simp
  unfold kept
  rw [hl]
  by_cases h1 : keep < 0
  · rw [if_pos h1]
    refine ⟨0, by omega, ?_, .inl ⟨by omega, rfl⟩⟩
    simp
  · rw [if_neg h1]
    by_cases h2 : (xs.length : Int) + ys.length - xs.length < keep
    · rw [if_pos h2]
      refine ⟨ys.length, Nat.le_refl _, ?_, .inr (.inl ⟨by omega, rfl⟩)⟩
      rw [List.take_length]
      exact List.take_of_length_le (by simp; omega)
    · rw [if_neg h2]
      refine ⟨keep.toNat, by omega, ?_, .inr (.inr (by omega))⟩
      have : ((xs.length : Int) + keep).toNat = xs.length + keep.toNat := by omega
      rw [this, List.take_append, List.take_of_length_le (by omega)]
      congr 2
      omega

theorem ret_bool {b : Bool} (h : b = true) : Ending.returned (.bool b) = .returned (.bool true) := by rw [h]
theorem durable_q (p : Nat) (bytes : List Int) (dur room : Int) {w0 w : World} {F : HP} {n : Nat} (h : Hw w0 (w.drewN n) (disk p bytes dur room * F)) :
    Calls Try.prog 17 #[.pointer (some ⟨p, 0, none⟩)] (w.drewN n) fun e w' => e = .returned (.int .i64 dur) ∧ ∃ m, w' = w.drewN m := by
  refine (durable_ok p bytes dur room h).mono ?_
  rintro e w' ⟨rfl, ⟨m, rfl⟩⟩
  exact ⟨rfl, _, World.drewN_drewN ..⟩

set_option maxHeartbeats 3200000 in
set_option maxRecDepth 100000 in
theorem diskLasts_ok (A B : Option Addr) (xs ys : List Int) (n m ca cb : Nat) (keep : Int) (w : World) (hA : (Kd.int .u8).C w A n xs) (hB : (Kd.int .u8).C w B m ys) (hca : n ≤ ca) (hcb : m ≤ cb) (sa : n ≤ 140737488351232) (sb : m ≤ 140737488351232) :
    Calls Try.prog 3 #[.slice A n ca, .slice B m cb, .int .i64 keep] w fun e w' => e = .returned (.bool true) ∧ Below w.heap.size w w' := by
  have HA := Aside0.mk hA
  have HB := Aside0.mk hB
  have la := Aside0.mk hA.1
  have lb := Aside0.mk hB.1
  clear hA hB
  by_cases hlen : n + m ≤ 1000
  · obtain ⟨j, hj, ht, hk⟩ := kept_two xs ys keep
    rw [lb.out] at hj hk
    have HT := Aside0.mk ht
    have HK := Aside0.mk hk
    clear ht hk
    go_enter Try.func3, Try.ntmps3
    go_wp2_with fail
    refine (awake_ok (Hw.start w)).mono ?_
    rintro e w1 ⟨rfl, h1⟩
    have H1 := Aside0.mk h1
    clear h1
    go_wp2_with fail
    refine (new_ok 1000 (by omega) (by omega) H1.out).mono ?_
    rintro e w2 ⟨p, rfl, h2⟩
    have H2 := Aside0.mk h2
    clear h2 H1
    go_wp2_with fail
    refine (append1_ok p [] 0 1000 xs A n ca H2.out (by omega) (by omega) la.out.symm hca (Ent_arg HA.out _) (by simp; omega)).mono ?_
    rintro e w3 ⟨rfl, h3⟩
    rw [List.nil_append] at h3
    have H3 := Aside0.mk h3
    clear h3 H2
    go_wp2_with fail
    refine (sync_ok p xs 0 1000 H3.out).mono ?_
    rintro e w4 ⟨rfl, h4⟩
    have H4 := Aside0.mk h4
    clear h4 H3
    go_wp2_with fail
    refine (append1_ok p xs xs.length 1000 ys B m cb H4.out (by omega) (by omega) lb.out.symm hcb (Ent_arg HB.out _) (by rw [la.out]; omega)).mono ?_
    rintro e w5 ⟨rfl, h5⟩
    have H5 := Aside0.mk h5
    clear h5 H4
    go_wp2_with fail
    refine (crash_ok p (xs ++ ys) xs.length 1000 keep H5.out (by omega) (by simp; omega)).mono ?_
    rintro e w6 ⟨rfl, h6⟩
    rw [HT.out] at h6
    have H6 := Aside0.mk h6
    clear h6 H5
    have hgl : (xs ++ ys.take j).length = n + j := by rw [List.length_append, List.length_take, la.out, lb.out]; omega
    have GL := Aside0.mk hgl
    clear hgl
    go_wp2_with fail
    refine (bytes_ok p (xs ++ ys.take j) _ 1000 (by rw [GL.out]; omega) H6.out).mono ?_
    rintro e w7 ⟨A1, c1, rfl, h7⟩
    rw [GL.out] at h7 ⊢
    obtain ⟨s1, hs1⟩ : ∃ s, s = strOfNums xs := ⟨_, rfl⟩
    obtain ⟨s2, hs2⟩ : ∃ s, s = strOfNums (ys.take j) := ⟨_, rfl⟩
    have hl1 : s1.size = n := by rw [hs1, strOfNums_size, la.out]
    have hl2 : s2.size = j := by rw [hs2, strOfNums_size, List.length_take, lb.out]; omega
    have hs := h7.row_string Try.underlying22 Try.underlying5 Try.underlying9
    rw [strOfNums_append, ← hs1, ← hs2] at hs
    have H7 := Aside0.mk h7.right
    clear h7 H6
    have L1 := Aside0.mk hl1
    have L2 := Aside0.mk hl2
    have S1 := Aside0.mk hs1
    have S2 := Aside0.mk hs2
    clear hl1 hl2 hs1 hs2
    have l1 := L1.out
    have l2 := L2.out
    have e11 : (n : Int) + j - n = j := by omega
    have d1 : decide ((j : Int) < 0) = false := by simp
    have d2 : decide (m < j) = false := by simpa using hj
    have hc1 : ∀ nq, (convert 22 9 (.slice A n ca)).run Try.prog (w7.drewN nq) = .ok (.string s1) (w7.drewN nq) := fun nq => by
      rw [S1.out]; exact C_string_n (Kd.C_below HA.out H7.out.below) Try.underlying22 Try.underlying5 Try.underlying9 nq
    have hc2 : ∀ nq, (convert 22 9 (.slice B j cb)).run Try.prog (w7.drewN nq) = .ok (.string s2) (w7.drewN nq) := fun nq => by
      rw [S2.out]
      refine C_string_n (xs := ys.take j) (Kd.C_below (w := w) ?_ H7.out.below) Try.underlying22 Try.underlying5 Try.underlying9 nq
      exact Kd.C_of_reads (d := (0 : Int)) (h1 := fun _ => rfl) (ReadsInt.take_ (Kd.reads_of_C (d := (0 : Int)) HB.out) j hj)
    go_wp2_with fail
    refine wp_region_quiet_lit (by kernel_rfl) (by kernel_rfl) ?_
    repeat (go_big_quiet_step ((go_at_call 17; exact durable_q p _ _ 1000 (H7.out.drewN _))))
    refine wpQuiet_nil ?_
    intro _ hw'
    obtain ⟨nq, hw''⟩ := hw'
    subst hw''
    go_wp2_with fail
    all_goals
      go_ret
      refine ⟨ret_bool ?_, (H7.out.drewN nq).below⟩
      have hk := HK.out
      first | (simp; done) | (simp; omega) | omega
  · have hlen' : (1000 : Int) < (n : Int) + m := by omega
    go_enter Try.func3, Try.ntmps3
    go_wp2_with fail
    refine (awake_ok (Hw.start w)).mono ?_
    rintro e w1 ⟨rfl, h1⟩
    have H1 := Aside0.mk h1
    clear h1
    go_wp2_with fail
    refine (new_ok 1000 (by omega) (by omega) H1.out).mono ?_
    rintro e w2 ⟨p, rfl, h2⟩
    have H2 := Aside0.mk h2
    clear h2 H1
    go_wp2_with fail
    go_ret
    exact ⟨rfl, H2.out.below⟩
theorem diskLasts_walk (A : Option Addr) (ca : Nat) (xs : List Int) (B : Option Addr) (cb : Nat) (ys : List Int) (keep : Int) (w : World) (hA : (Kd.int .u8).C w A xs.length xs) (hca : xs.length ≤ ca) (sa : xs.length * 1 ≤ 140737488351232 ∧ ∀ x ∈ xs, (Lit.int .u8 x).wf = true)
    (hB : (Kd.int .u8).C w B ys.length ys) (hcb : ys.length ≤ cb) (sb : ys.length * 1 ≤ 140737488351232 ∧ ∀ x ∈ ys, (Lit.int .u8 x).wf = true) (_ : (Lit.int .i64 keep).wf = true) :
    Calls Try.prog 3 #[.slice A xs.length ca, .slice B ys.length cb, .int .i64 keep] w fun e w' => e = .returned (.bool true) ∧ Below w.heap.size w w' :=
  diskLasts_ok A B xs ys _ _ ca cb keep w hA hB hca hcb (by have := sa.1; omega) (by have := sb.1; omega)
end Go.Proofs.Ytacnogbdifgmeaa
