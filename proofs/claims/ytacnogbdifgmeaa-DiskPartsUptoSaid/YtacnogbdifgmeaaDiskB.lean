/- The disk's functions, more: Crash, Truncate, Fork. -/
import Derived.Test.YtacnogbdifgmeaaDisk
import Derived.StillTailTactics
import Derived.BigRegion
set_option linter.unusedVariables false
set_option linter.unusedSimpArgs false
namespace Go.Proofs.Ytacnogbdifgmeaa
open Go.RowKit Go.Proofs.YtacnogbdifgmeaaW.PrintWords
attribute [local go_sem] mx2_int mn2_int mx_two mn_two

/-- How many bytes a crash leaves. -/
def kept (dur keep len : Int) : Int := if keep < 0 then dur else if len - dur < keep then len else dur + keep
theorem disk_cut {w0 w : World} {F : HP} {p m : Nat} {A : Option Addr} {c : Nat} {bytes : List Int} {dur room : Int} (hm : m ≤ bytes.length)
    (h : Hw w0 w (blk p (.cells #[.slice A bytes.length c, .int .i64 dur, .int .i64 room] 34) * (row (Kd.int .u8) 5 (.slice A bytes.length c) bytes * F))) :
    Hw w0 (w.setCell ⟨p, 0, none⟩ (.slice A m c)) (disk p (bytes.take m) dur room * F) := by
  have h2 := (h.as (Q := row (Kd.int .u8) 5 (.slice A bytes.length c) bytes * (blk p (.cells #[.slice A bytes.length c, .int .i64 dur, .int .i64 room] 34) * F)) (by ac_rfl)).row_take hm
  have h3 := h2.as (Q := blk p (.cells #[.slice A bytes.length c, .int .i64 dur, .int .i64 room] 34) * (row (Kd.int .u8) 5 (.slice A m c) (bytes.take m) * F)) (by ac_rfl)
  exact disk_mk (h3.set 0 (.slice A m c))

set_option maxHeartbeats 3200000 in
set_option maxRecDepth 100000 in
theorem crash_ok (p : Nat) (bytes : List Int) (dur room keep : Int) {w0 w : World} {F : HP} (h : Hw w0 w (disk p bytes dur room * F)) (h0 : 0 ≤ dur) (h1 : dur ≤ bytes.length) :
    Calls Try.prog 15 #[.pointer (some ⟨p, 0, none⟩), .int .i64 keep] w fun e w' => e = .returned (.tuple #[]) ∧ Hw w0 w' (disk p (bytes.take (kept dur keep bytes.length).toNat) (bytes.take (kept dur keep bytes.length).toNat).length room * F) := by
  obtain ⟨A, c, k0, k1, k2, hl, hc, hp, hh⟩ := disk_facts h
  have HH := Aside0.mk hh
  have hm := hc.2.1
  have fz := hh.unfrozen 0
  clear hh h hc
  by_cases c1 : keep < 0
  · have g1 : ¬ (bytes.length : Int) - dur < 0 := by omega
    have ek : kept dur keep bytes.length = dur := by unfold kept; rw [if_pos c1]
    rw [ek]
    clear ek
    have hw := Aside0.mk (disk_cut (p := p) (m := dur.toNat) (by omega) HH.out).drew
    go_enter Try.func15, Try.ntmps15
    go_wp2
    go_region
    go_wp2_with (go_at_call 14; refine (sync_ok p (bytes.take dur.toNat) dur room hw.out).mono ?_; rintro e w' ⟨rfl, hd⟩; have HD := Aside0.mk hd; clear hd)
    go_end0
    exact ⟨rfl, HD.out⟩
  · by_cases c2 : (bytes.length : Int) - dur < keep
    · have ek : kept dur keep bytes.length = bytes.length := by unfold kept; rw [if_neg c1, if_pos c2]
      rw [ek]
      clear ek
      have e2 : dur + ((bytes.length : Int) - dur) = bytes.length := by omega
      have hw := Aside0.mk (disk_cut (p := p) (m := (dur + ((bytes.length : Int) - dur)).toNat) (by omega) HH.out).drew
      have E2 := Aside0.mk e2
      clear e2
      go_enter Try.func15, Try.ntmps15
      go_wp2
      go_region
      go_wp2_with (go_at_call 14; refine (sync_ok p (bytes.take (dur + ((bytes.length : Int) - dur)).toNat) dur room hw.out).mono ?_; rintro e w' ⟨rfl, hd⟩; have HD := Aside0.mk hd; clear hd)
      go_end0
      have hd := HD.out
      rw [E2.out] at hd
      exact ⟨rfl, by simpa using hd⟩
    · have ek : kept dur keep bytes.length = dur + keep := by unfold kept; rw [if_neg c1, if_neg c2]
      rw [ek]
      clear ek
      have hw := Aside0.mk (disk_cut (p := p) (m := (dur + keep).toNat) (by omega) HH.out).drew
      go_enter Try.func15, Try.ntmps15
      go_wp2
      go_region
      go_wp2_with (go_at_call 14; refine (sync_ok p (bytes.take (dur + keep).toNat) dur room hw.out).mono ?_; rintro e w' ⟨rfl, hd⟩; have HD := Aside0.mk hd; clear hd)
      go_end0
      exact ⟨rfl, HD.out⟩

set_option maxHeartbeats 1600000 in
set_option maxRecDepth 100000 in
theorem truncate_bad (p : Nat) (bytes : List Int) (dur room size : Int) {w0 w : World} {F : HP} (h : Hw w0 w (disk p bytes dur room * F)) (hs : size < 0 ∨ (bytes.length : Int) < size) :
    Calls Try.prog 31 #[.pointer (some ⟨p, 0, none⟩), .int .i64 size] w fun e w' => e = .returned (.int .i64 1) ∧ Drawn0 w w' := by
  obtain ⟨A, c, k0, k1, k2, hl, hc, hp, hh⟩ := disk_facts h
  have hm := hc.2.1
  clear hh h hc
  by_cases c1 : size < 0
  · go_enter Try.func31, Try.ntmps31
    go_wp2
    go_ret
    exact ⟨rfl, Drawn0.refl _⟩
  · have c2 : (bytes.length : Int) < size := by omega
    have d1 : decide (size < 0) = false := by simpa using c1
    go_enter Try.func31, Try.ntmps31
    go_wp2
    go_ret
    exact ⟨rfl, Drawn0.refl _⟩

set_option maxHeartbeats 1600000 in
set_option maxRecDepth 100000 in
theorem truncate_ok (p : Nat) (bytes : List Int) (dur room : Int) (size : Int) {w0 w : World} {F : HP} (h : Hw w0 w (disk p bytes dur room * F)) (h0 : 0 ≤ size) (h1 : size ≤ bytes.length) :
    Calls Try.prog 31 #[.pointer (some ⟨p, 0, none⟩), .int .i64 size] w fun e w' => e = .returned (.int .i64 0) ∧ Hw w0 w' (disk p (bytes.take size.toNat) (bytes.take size.toNat).length room * F) := by
  obtain ⟨A, c, k0, k1, k2, hl, hc, hp, hh⟩ := disk_facts h
  have hm := hc.2.1
  have fz := hh.unfrozen 0
  have hw := Aside0.mk (disk_cut (p := p) (m := size.toNat) (by omega) hh)
  have d1 : decide (size < 0) = false := by simpa using h0
  have d2 : decide ((bytes.length : Int) < size) = false := by simpa using h1
  clear hh h hc
  go_enter Try.func31, Try.ntmps31
  go_wp2_with (go_at_call 14; refine (sync_ok p (bytes.take size.toNat) dur room hw.out).mono ?_; rintro e w' ⟨rfl, hd⟩; have HD := Aside0.mk hd; clear hd)
  go_ret
  exact ⟨rfl, HD.out⟩

set_option maxHeartbeats 1600000 in
set_option maxRecDepth 100000 in
theorem fork_ok (p : Nat) (bytes : List Int) (dur room : Int) (hb : bytes.length ≤ 140737488355328) {w0 w : World} {F : HP} (h : Hw w0 w (disk p bytes dur room * F)) :
    Calls Try.prog 27 #[.pointer (some ⟨p, 0, none⟩)] w fun e w' => ∃ q : Nat, e = .returned (.pointer (some ⟨q, 0, none⟩)) ∧ Hw w0 w' (disk q bytes dur room * (disk p bytes dur room * F)) := by
  obtain ⟨A, c, k0, k1, k2, hl, hc, hp, hh⟩ := disk_facts h
  have H0 := Aside0.mk h.drew
  clear hh h hc
  go_enter Try.func27, Try.ntmps27
  go_wp2
  go_region_with (go_at_call 16; refine (bytes_ok p bytes dur room hb H0.out).mono ?_; rintro e w' ⟨A2, c2, rfl, hd⟩; obtain ⟨A', c', j0, j1, j2, _, _, jp, _⟩ := disk_facts hd.right; have HD := Aside0.mk hd; clear hd)
  all_goals
    go_wp2
    go_ret
    exact ⟨_, rfl, disk_mk (HD.out.alloc _)⟩
end Go.Proofs.Ytacnogbdifgmeaa
