/- The disk's functions: what each of them does to the disk's own blocks. -/
import Derived.Test.YtckdkbjobipniaaProg
import Derived.Test.YtckdkbjobipniaaBA
import Derived.StillTailTactics
import Derived.BigRegion
set_option linter.unusedVariables false
set_option linter.unusedSimpArgs false
namespace Go.Proofs.Ytckdkbjobipniaa
open Go.RowKit Go.Proofs.YtckdkbjobipniaaW.PrintWords
attribute [local go_sem] mx2_int mn2_int mx_two mn_two

/-- A disk at block p: its bytes, how many of them are durable, for how many there is room. -/
def disk (p : Nat) (bytes : List Int) (dur room : Int) : HP := HP.ex fun v => blk p (.cells #[v, .int .i64 dur, .int .i64 room] 70) * row (Kd.int .u8) 5 v bytes

theorem disk_mk {w0 w : World} {F : HP} {p : Nat} {v : Value} {bytes : List Int} {dur room : Int}
    (h : Hw w0 w (blk p (.cells #[v, .int .i64 dur, .int .i64 room] 70) * (row (Kd.int .u8) 5 v bytes * F))) : Hw w0 w (disk p bytes dur room * F) :=
  Hw.ex_mul.2 ⟨v, h.as (by ac_rfl)⟩
theorem disk_open {w0 w : World} {F : HP} {p : Nat} {bytes : List Int} {dur room : Int} (h : Hw w0 w (disk p bytes dur room * F)) :
    ∃ v, Hw w0 w (blk p (.cells #[v, .int .i64 dur, .int .i64 room] 70) * (row (Kd.int .u8) 5 v bytes * F)) := by
  obtain ⟨v, h⟩ := Hw.ex_mul.1 h
  exact ⟨v, h.as (by ac_rfl)⟩

set_option maxRecDepth 100000 in
theorem new_ok (room : Int) (h0 : 0 ≤ room) (h1 : room ≤ 1048576) {w0 w : World} {F : HP} (h : Hw w0 w F) :
    Calls Try.prog 18 #[.int .i64 room] w fun e w' => ∃ p : Nat, e = .returned (.tuple #[.pointer (some ⟨p, 0, none⟩), .int .i64 0]) ∧ Hw w0 w' (disk p [] 0 room * F) := by
  have hh := Aside0.mk h
  clear h
  go_enter Try.func18, Try.ntmps18
  go_wp2
  go_ret2
  exact ⟨_, rfl, disk_mk ((hh.out.row_nil _ _).alloc _)⟩

theorem new_bad (room : Int) (hr : room < 0 ∨ 1048576 < room) {w : World} :
    Calls Try.prog 18 #[.int .i64 room] w fun e w' => e = .returned (.tuple #[.pointer none, .int .i64 1]) ∧ w' = w := by
  rcases hr with h | h
  · go_enter Try.func18, Try.ntmps18
    go_wp2
    go_ret2
    exact ⟨rfl, rfl⟩
  · have h' : ¬ room < 0 := by omega
    go_enter Try.func18, Try.ntmps18
    go_wp2
    go_ret2
    exact ⟨rfl, rfl⟩

theorem disk_facts {w0 w : World} {F : HP} {p : Nat} {bytes : List Int} {dur room : Int} (h : Hw w0 w (disk p bytes dur room * F)) :
    ∃ A c, w.cell? ⟨p, 0, none⟩ = some (.slice A bytes.length c) ∧ w.cell? ⟨p, 1, none⟩ = some (.int .i64 dur) ∧ w.cell? ⟨p, 2, none⟩ = some (.int .i64 room) ∧ bytes.length ≤ c ∧ (Kd.int .u8).C w A bytes.length bytes ∧ p < w.heap.size ∧
      Hw w0 w (blk p (.cells #[.slice A bytes.length c, .int .i64 dur, .int .i64 room] 70) * (row (Kd.int .u8) 5 (.slice A bytes.length c) bytes * F)) := by
  obtain ⟨v, hh⟩ := disk_open h
  obtain ⟨A, c, rfl, hl, hc⟩ := (hh.as (Q := row (Kd.int .u8) 5 v bytes * (blk p (.cells #[v, .int .i64 dur, .int .i64 room] 70) * F)) (by ac_rfl)).row_reads
  exact ⟨A, c, hh.cell (i := 0) rfl, hh.cell (i := 1) rfl, hh.cell (i := 2) rfl, hl, hc, hh.lt, hh⟩

theorem left_ok (p : Nat) (bytes : List Int) (dur room : Int) {w0 w : World} {F : HP} (h : Hw w0 w (disk p bytes dur room * F)) (hr : 0 ≤ room) (hr2 : room ≤ 1048576) :
    Calls Try.prog 68 #[.pointer (some ⟨p, 0, none⟩)] w fun e w' => e = .returned (.int .i64 (room - bytes.length)) ∧ Drawn0 w w' := by
  obtain ⟨A, c, k0, k1, k2, hl, hc, hp, hh⟩ := disk_facts h
  have hm := hc.2.1
  clear hh h hc hl
  go_enter Try.func68, Try.ntmps68
  go_wp2
  go_quiet (fail)
  go_wp2
  go_ret
  exact ⟨rfl, ⟨⟨_, rfl⟩⟩⟩

theorem sync_ok (p : Nat) (bytes : List Int) (dur room : Int) {w0 w : World} {F : HP} (h : Hw w0 w (disk p bytes dur room * F)) :
    Calls Try.prog 83 #[.pointer (some ⟨p, 0, none⟩)] w fun e w' => e = .returned (.tuple #[]) ∧ Hw w0 w' (disk p bytes bytes.length room * F) := by
  obtain ⟨A, c, k0, k1, k2, hl, hc, hp, hh⟩ := disk_facts h
  have HH := Aside0.mk hh
  have fz := hh.unfrozen 1
  clear hh h hc hl
  go_enter Try.func83, Try.ntmps83
  go_wp2
  go_end0
  exact ⟨rfl, disk_mk (HH.out.set 1 _)⟩
theorem Try.dinfoU8 : (Try.prog.info? 5).map (fun i => (i.zero, i.size, i.bytes)) = some (some (.int .u8 0), 1, 1) := by kernel_rfl

theorem bytes_ok (p : Nat) (bytes : List Int) (dur room : Int) (hb : bytes.length ≤ 140737488355328) {w0 w : World} {F : HP} (h : Hw w0 w (disk p bytes dur room * F)) :
    Calls Try.prog 33 #[.pointer (some ⟨p, 0, none⟩)] w fun e w' => ∃ A c, e = .returned (.slice A bytes.length c) ∧ Hw w0 w' (row (Kd.int .u8) 5 (.slice A bytes.length c) bytes * (disk p bytes dur room * F)) := by
  have H0 := Aside0.mk h
  obtain ⟨A, c, k0, k1, k2, hl, hc, hp, hh⟩ := disk_facts h
  have HC := Aside0.mk hc
  clear hh h hc hl
  go_enter Try.func33, Try.ntmps33
  go_wp2_with (at_builtin; refine Hw.append_row (Value.int .u8) (0 : Int) rfl (.tmp 3) (.tmp 7) 28 5 (.int .u8 0) 1 rfl Try.underlying28 Try.dinfoU8 rfl (by decide) _ [] bytes A bytes.length c rfl rfl (Hw.row_of_blk (xs := []) (enc := Value.int .u8) (h1 := fun _ => rfl) rfl (by simp) (H0.out.alloc _)) (Kd.C_below HC.out (below_alloc (Below.refl _ _) _)) (by simp; omega) ?_; intro A1 n1 c1 w1 hn1 hw1; have H1 := Aside0.mk hw1; clear hw1)
  have hn := hn1.out
  clear hn1
  go_ret
  have h1 := H1.out
  rw [List.nil_append] at hn h1
  subst hn
  exact ⟨_, _, rfl, h1⟩
/-- How many bytes parts have together. -/
def total (parts : List (List Int)) : Nat := (parts.map List.length).sum
theorem total_take_le (parts : List (List Int)) (k : Nat) : total (parts.take k) ≤ total parts := by
  have h : total parts = total (parts.take k) + total (parts.drop k) := by
    unfold total
    rw [← List.sum_append_nat, ← List.map_append, List.take_append_drop]
  omega
theorem take_succ_of {α : Type _} (l : List α) (k : Nat) (x : α) (h : l[k]? = some x) : l.take (k + 1) = l.take k ++ [x] := by
  rw [List.take_add_one, h]; rfl
theorem total_take_succ (parts : List (List Int)) (k : Nat) (x : List Int) (h : parts[k]? = some x) : total (parts.take (k + 1)) = total (parts.take k) + x.length := by
  rw [take_succ_of _ _ _ h]
  unfold total
  simp
theorem flat_take_succ (parts : List (List Int)) (k : Nat) (x : List Int) (h : parts[k]? = some x) : (parts.take (k + 1)).flatten = (parts.take k).flatten ++ x := by
  rw [take_succ_of _ _ _ h]
  simp
theorem flat_length (parts : List (List Int)) : parts.flatten.length = total parts := by
  simp [total, List.length_flatten]

set_option maxHeartbeats 800000 in
set_option maxRecDepth 100000 in
theorem append_full (p : Nat) (bytes : List Int) (dur room : Int) (parts : List (List Int)) (A : Option Addr) (c : Nat) {w0 w : World} {F : HP} (h : Hw w0 w (disk p bytes dur room * F)) (hr : 0 ≤ room) (hr2 : room ≤ 1048576)
    (hC : (Kd.slice 5 (Kd.int .u8)).C w A parts.length parts) (ht : total parts ≤ 4611686018427387904) (hfull : room < bytes.length + total parts) :
    Calls Try.prog 28 #[.pointer (some ⟨p, 0, none⟩), .slice A parts.length c] w fun e w' => e = .returned (.int .i64 3) ∧ Hw w0 w' (disk p bytes dur room * F) := by
  have H0 := Aside0.mk h
  have HC := Aside0.mk hC
  have hm := hC.2.1
  clear h hC
  go_enter Try.func28, Try.ntmps28
  go_wp2
  go_loop [12, 5] (fun i n => ∃ k : Nat, k ≤ parts.length ∧ i = .int .i64 k ∧ n = .int .i64 (total (parts.take k))) (fun i _ => parts.length - (intOf i).toNat)
  case atStart => exact ⟨0, Nat.zero_le _, rfl, rfl⟩
  case round =>
    obtain ⟨k, hk, rfl, rfl⟩ := hrel
    by_cases hlt : k < parts.length
    · obtain ⟨ad, A', c', x, e1, hcell, _, hx, _⟩ := C_row_at HC.out k hlt
      subst e1
      have ts := total_take_succ parts k x hx.out
      have tl := total_take_le parts (k + 1)
      have tl2 : total (parts.take k) + x.length ≤ 4611686018427387904 := by omega
      have TS := Aside0.mk ts
      clear ts tl
      go_wp2
      go_round
      case rel => exact ⟨k + 1, by omega, by go_num, by rw [TS.out]; go_num⟩
      case measure => simp [intOf]; omega
    · have ek : parts.take k = parts := List.take_of_length_le (by omega)
      rw [ek]
      go_wp2_with (go_at_call 68; refine (left_ok p bytes dur room H0.out hr hr2).mono ?_; rintro e w' ⟨rfl, hd⟩)
      go_ret
      exact ⟨rfl, H0.out.drawn hd⟩
set_option maxHeartbeats 1600000 in
set_option maxRecDepth 100000 in
theorem append_ok (p : Nat) (bytes : List Int) (dur room : Int) (parts : List (List Int)) (A : Option Addr) (c : Nat) {w0 w : World} {F : HP} (h : Hw w0 w (disk p bytes dur room * F)) (hr : 0 ≤ room) (hr2 : room ≤ 1048576)
    (hE : Ent w0 F (fun w => (Kd.slice 5 (Kd.int .u8)).C w A parts.length parts)) (hfit : bytes.length + total parts ≤ room) :
    Calls Try.prog 28 #[.pointer (some ⟨p, 0, none⟩), .slice A parts.length c] w fun e w' => e = .returned (.int .i64 0) ∧ Hw w0 w' (disk p (bytes ++ parts.flatten) dur room * F) := by
  have H0 := Aside0.mk h
  have HC := Aside0.mk (hE w h.right)
  have HE := Aside0.mk hE
  have hm := HC.out.2.1
  have ht : total parts ≤ 1048576 := by omega
  clear h hE
  go_enter Try.func28, Try.ntmps28
  go_wp2
  go_loop [12, 5] (fun i n => ∃ k : Nat, k ≤ parts.length ∧ i = .int .i64 k ∧ n = .int .i64 (total (parts.take k))) (fun i _ => parts.length - (intOf i).toNat)
  case atStart => exact ⟨0, Nat.zero_le _, rfl, rfl⟩
  case round =>
    obtain ⟨k, hk, rfl, rfl⟩ := hrel
    by_cases hlt : k < parts.length
    · obtain ⟨ad, A', c', x, e1, hcell, _, hx, _⟩ := C_row_at HC.out k hlt
      subst e1
      have ts := total_take_succ parts k x hx.out
      have tl := total_take_le parts (k + 1)
      have tl2 : total (parts.take k) + x.length ≤ 1048576 := by omega
      have TS := Aside0.mk ts
      clear ts tl
      go_wp2
      go_round
      case rel => exact ⟨k + 1, by omega, by go_num, by rw [TS.out]; go_num⟩
      case measure => simp [intOf]; omega
    · have ek : parts.take k = parts := List.take_of_length_le (by omega)
      rw [ek]
      clear ek
      go_wp2_with (go_at_call 68; refine (left_ok p bytes dur room H0.out hr hr2).mono ?_; rintro e w' ⟨rfl, hd⟩)
      have H1 := Aside0.mk (H0.out.drawn hd)
      clear hd HC hlt
      go_loopw [27, 9] (fun i _ wr => ∃ k : Nat, k ≤ parts.length ∧ i = .int .i64 k ∧ Aside0 (Hw w0 wr (disk p (bytes ++ (parts.take k).flatten) dur room * F))) (fun i _ _ => parts.length - (intOf i).toNat)
      case atStart => exact ⟨0, Nat.zero_le _, rfl, by simpa using H1⟩
      case round =>
        obtain ⟨k, hk, rfl, HW⟩ := hrel
        by_cases hlt : k < parts.length
        · obtain ⟨ad, A', c', x, e1, hcell, hxc, hx, hxC⟩ := C_row_at (HE.out _ HW.out.right) k hlt
          subst e1
          have ts := flat_take_succ parts k x hx.out
          have tq := total_take_succ parts k x hx.out
          have tl := total_take_le parts (k + 1)
          have tf := flat_length (parts.take k)
          have hroom : ((bytes ++ (parts.take k).flatten).length + x.length) * 1 ≤ 140737488355328 := by simp only [List.length_append, tf]; omega
          obtain ⟨bs, hbs⟩ : ∃ bs, bs = bytes ++ (parts.take k).flatten := ⟨_, rfl⟩
          rw [← hbs] at HW hroom
          obtain ⟨A, c1, k0, k1, k2, hl, hc, hp, hh⟩ := disk_facts HW.out
          have HH := Aside0.mk (hh.as (Q := row (Kd.int .u8) 5 (.slice A bs.length c1) bs * (blk p (.cells #[.slice A bs.length c1, .int .i64 dur, .int .i64 room] 70) * F)) (by ac_rfl))
          have HR := Aside0.mk hroom
          have TS := Aside0.mk (show bs ++ x = bytes ++ (parts.take (k + 1)).flatten by rw [hbs, ts, List.append_assoc])
          clear hc hh ts tq tl tf hroom hbs
          go_wp2_with (at_builtin; refine Hw.append_row (Value.int .u8) (0 : Int) rfl (.tmp 36) (.tmp 37) 28 5 (.int .u8 0) 1 rfl Try.underlying28 Try.dinfoU8 rfl (by decide) _ _ x _ x.length c' rfl rfl HH.out hxC.out HR.out ?_; intro A1 n1 c2 w1 hn1 hw1; have hw2 := hw1.as (Q := blk p (.cells #[.slice A bs.length c1, .int .i64 dur, .int .i64 room] 70) * (row (Kd.int .u8) 5 (.slice A1 n1 c2) (bs ++ x) * F)) (by ac_rfl); have k0' := hw2.cell (i := 0) rfl; have f0' := hw2.unfrozen 0; have HN := Aside0.mk (hw2.set 0 (.slice A1 n1 c2)); clear hw1 hw2 HH HW k0 k1 k2)
          go_roundw
          case rel => exact ⟨k + 1, by omega, by go_num, ⟨by rw [← TS.out]; exact disk_mk HN.out⟩⟩
          case measure => simp [intOf]; omega
        · have ek : parts.take k = parts := List.take_of_length_le (by omega)
          rw [ek] at HW
          go_wp2
          go_ret
          exact ⟨rfl, HW.out⟩
end Go.Proofs.Ytckdkbjobipniaa

/- The disk's functions, more: Crash, Truncate, Fork. -/
set_option linter.unusedVariables false
set_option linter.unusedSimpArgs false
namespace Go.Proofs.Ytckdkbjobipniaa
open Go.RowKit Go.Proofs.YtckdkbjobipniaaW.PrintWords
attribute [local go_sem] mx2_int mn2_int mx_two mn_two

/-- How many bytes a crash leaves. -/
def kept (dur keep len : Int) : Int := if keep < 0 then dur else if len - dur < keep then len else dur + keep
theorem disk_cut {w0 w : World} {F : HP} {p m : Nat} {A : Option Addr} {c : Nat} {bytes : List Int} {dur room : Int} (hm : m ≤ bytes.length)
    (h : Hw w0 w (blk p (.cells #[.slice A bytes.length c, .int .i64 dur, .int .i64 room] 70) * (row (Kd.int .u8) 5 (.slice A bytes.length c) bytes * F))) :
    Hw w0 (w.setCell ⟨p, 0, none⟩ (.slice A m c)) (disk p (bytes.take m) dur room * F) := by
  have h2 := (h.as (Q := row (Kd.int .u8) 5 (.slice A bytes.length c) bytes * (blk p (.cells #[.slice A bytes.length c, .int .i64 dur, .int .i64 room] 70) * F)) (by ac_rfl)).row_take hm
  have h3 := h2.as (Q := blk p (.cells #[.slice A bytes.length c, .int .i64 dur, .int .i64 room] 70) * (row (Kd.int .u8) 5 (.slice A m c) (bytes.take m) * F)) (by ac_rfl)
  exact disk_mk (h3.set 0 (.slice A m c))

set_option maxHeartbeats 3200000 in
set_option maxRecDepth 100000 in
theorem crash_ok (p : Nat) (bytes : List Int) (dur room keep : Int) {w0 w : World} {F : HP} (h : Hw w0 w (disk p bytes dur room * F)) (h0 : 0 ≤ dur) (h1 : dur ≤ bytes.length) :
    Calls Try.prog 26 #[.pointer (some ⟨p, 0, none⟩), .int .i64 keep] w fun e w' => e = .returned (.tuple #[]) ∧ Hw w0 w' (disk p (bytes.take (kept dur keep bytes.length).toNat) (bytes.take (kept dur keep bytes.length).toNat).length room * F) := by
  obtain ⟨A, c, k0, k1, k2, hl, hc, hp, hh⟩ := disk_facts h
  have HH := Aside0.mk hh
  have hm := hc.2.1
  have fz := hh.unfrozen 0
  clear hh h hc
  by_cases c1 : keep < 0
  · have g1 : ¬ (bytes.length : Int) - dur < 0 := by omega
    have ek : kept dur keep bytes.length = dur := by unfold kept; rw [if_pos c1]
    rw [ek]
    clear ek
    have hw := Aside0.mk (disk_cut (p := p) (m := dur.toNat) (by omega) HH.out).drew
    go_enter Try.func26, Try.ntmps26
    go_wp2
    go_region
    go_wp2_with (go_at_call 83; refine (sync_ok p (bytes.take dur.toNat) dur room hw.out).mono ?_; rintro e w' ⟨rfl, hd⟩; have HD := Aside0.mk hd; clear hd)
    go_end0
    exact ⟨rfl, HD.out⟩
  · by_cases c2 : (bytes.length : Int) - dur < keep
    · have ek : kept dur keep bytes.length = bytes.length := by unfold kept; rw [if_neg c1, if_pos c2]
      rw [ek]
      clear ek
      have e2 : dur + ((bytes.length : Int) - dur) = bytes.length := by omega
      have hw := Aside0.mk (disk_cut (p := p) (m := (dur + ((bytes.length : Int) - dur)).toNat) (by omega) HH.out).drew
      have E2 := Aside0.mk e2
      clear e2
      go_enter Try.func26, Try.ntmps26
      go_wp2
      go_region
      go_wp2_with (go_at_call 83; refine (sync_ok p (bytes.take (dur + ((bytes.length : Int) - dur)).toNat) dur room hw.out).mono ?_; rintro e w' ⟨rfl, hd⟩; have HD := Aside0.mk hd; clear hd)
      go_end0
      have hd := HD.out
      rw [E2.out] at hd
      exact ⟨rfl, by simpa using hd⟩
    · have ek : kept dur keep bytes.length = dur + keep := by unfold kept; rw [if_neg c1, if_neg c2]
      rw [ek]
      clear ek
      have hw := Aside0.mk (disk_cut (p := p) (m := (dur + keep).toNat) (by omega) HH.out).drew
      go_enter Try.func26, Try.ntmps26
      go_wp2
      go_region
      go_wp2_with (go_at_call 83; refine (sync_ok p (bytes.take (dur + keep).toNat) dur room hw.out).mono ?_; rintro e w' ⟨rfl, hd⟩; have HD := Aside0.mk hd; clear hd)
      go_end0
      exact ⟨rfl, HD.out⟩

set_option maxHeartbeats 1600000 in
set_option maxRecDepth 100000 in
theorem truncate_ok (p : Nat) (bytes : List Int) (dur room : Int) (size : Int) {w0 w : World} {F : HP} (h : Hw w0 w (disk p bytes dur room * F)) (h0 : 0 ≤ size) (h1 : size ≤ bytes.length) :
    Calls Try.prog 81 #[.pointer (some ⟨p, 0, none⟩), .int .i64 size] w fun e w' => e = .returned (.int .i64 0) ∧ Hw w0 w' (disk p (bytes.take size.toNat) (bytes.take size.toNat).length room * F) := by
  obtain ⟨A, c, k0, k1, k2, hl, hc, hp, hh⟩ := disk_facts h
  have hm := hc.2.1
  have fz := hh.unfrozen 0
  have hw := Aside0.mk (disk_cut (p := p) (m := size.toNat) (by omega) hh)
  have d1 : decide (size < 0) = false := by simpa using h0
  have d2 : decide ((bytes.length : Int) < size) = false := by simpa using h1
  clear hh h hc
  go_enter Try.func81, Try.ntmps81
  go_wp2_with (go_at_call 83; refine (sync_ok p (bytes.take size.toNat) dur room hw.out).mono ?_; rintro e w' ⟨rfl, hd⟩; have HD := Aside0.mk hd; clear hd)
  go_ret
  exact ⟨rfl, HD.out⟩

end Go.Proofs.Ytckdkbjobipniaa

/- Append of one slice; what the statements read of their arguments. -/
set_option linter.unusedVariables false
set_option linter.unusedSimpArgs false
namespace Go.Proofs.Ytckdkbjobipniaa
open Go.RowKit Go.Proofs.YtckdkbjobipniaaW.PrintWords

theorem append1g_ok (p : Nat) (bytes : List Int) (dur room : Int) (xs : List Int) (A : Option Addr) (n c g : Nat) {w0 w : World} {F : HP} (hg : g = w.heap.size) (h : Hw w0 w (disk p bytes dur room * F)) (hr : 0 ≤ room) (hr2 : room ≤ 1048576)
    (hn : n = xs.length) (hc : n ≤ c) (hE : Ent w0 F (fun w => (Kd.int .u8).C w A n xs)) (hfit : bytes.length + n ≤ room) :
    Calls Try.prog 28 #[.pointer (some ⟨p, 0, none⟩), .slice (some ⟨g, 0, none⟩) 1 1] (w.alloc (.cells #[.slice A n c] 28)) fun e w' => e = .returned (.int .i64 0) ∧ Hw w0 w' (disk p (bytes ++ xs) dur room * F) := by
  have hA := h.alloc (.cells #[.slice A n c] 28)
  rw [← hg] at hA
  have ht : total [xs] = n := by simp [total, hn]
  refine (append_ok p bytes dur room [xs] _ 1 (hA.as (Q := disk p bytes dur room * (F * blk g (.cells #[.slice A n c] 28))) (by ac_rfl)) hr hr2 (fun w' h' => ?_) (by omega)).mono ?_
  · exact C_lit1 (h'.as (HP.comm _ _)).blk_at.1 hn hc (hE w' h'.left)
  rintro e w' ⟨rfl, h'⟩
  refine ⟨rfl, ?_⟩
  have h2 := (h'.as (Q := disk p (bytes ++ [xs].flatten) dur room * F * blk g (.cells #[.slice A n c] 28)) (by ac_rfl)).left
  simpa using h2
theorem append1g_full (p : Nat) (bytes : List Int) (dur room : Int) (xs : List Int) (A : Option Addr) (n c g : Nat) {w0 w : World} {F : HP} (hg : g = w.heap.size) (h : Hw w0 w (disk p bytes dur room * F)) (hr : 0 ≤ room) (hr2 : room ≤ 1048576)
    (hn : n = xs.length) (hc : n ≤ c) (hE : Ent w0 F (fun w => (Kd.int .u8).C w A n xs)) (hm : n ≤ 4611686018427387904) (hfit : room < bytes.length + n) :
    Calls Try.prog 28 #[.pointer (some ⟨p, 0, none⟩), .slice (some ⟨g, 0, none⟩) 1 1] (w.alloc (.cells #[.slice A n c] 28)) fun e w' => e = .returned (.int .i64 3) ∧ Hw w0 w' (disk p bytes dur room * F) := by
  have hA := h.alloc (.cells #[.slice A n c] 28)
  have hF := hE _ (h.alloc (.cells #[.slice A n c] 28)).right.right
  rw [← hg] at hA
  have ht : total [xs] = n := by simp [total, hn]
  refine (append_full p bytes dur room [xs] _ 1 (hA.as (Q := disk p bytes dur room * (F * blk g (.cells #[.slice A n c] 28))) (by ac_rfl)) hr hr2 (C_lit1 hA.blk_at.1 hn hc hF) (by omega) (by omega)).mono ?_
  rintro e w' ⟨rfl, h'⟩
  exact ⟨rfl, (h'.as (Q := disk p bytes dur room * F * blk g (.cells #[.slice A n c] 28)) (by ac_rfl)).left⟩

theorem bytes_n (p : Nat) (bytes : List Int) (dur room : Int) (n : Nat) (hn : bytes.length = n) (hb : n ≤ 140737488355328) {w0 w : World} {F : HP} (h : Hw w0 w (disk p bytes dur room * F)) :
    Calls Try.prog 33 #[.pointer (some ⟨p, 0, none⟩)] w fun e w' => ∃ A c, e = .returned (.slice A n c) ∧ n ≤ c ∧ Hw w0 w' (row (Kd.int .u8) 5 (.slice A n c) bytes * (disk p bytes dur room * F)) := by
  subst hn
  refine (bytes_ok p bytes dur room hb h).mono ?_
  rintro e w' ⟨A, c, rfl, h'⟩
  obtain ⟨A', c', e1, hl, _⟩ := h'.row_reads
  injection e1 with e1 e2 e3
  subst e3
  exact ⟨A, c, rfl, hl, h'⟩
end Go.Proofs.Ytckdkbjobipniaa
