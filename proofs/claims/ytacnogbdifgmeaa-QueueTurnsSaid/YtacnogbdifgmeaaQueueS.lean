/- The queue of texts: its contracts, over a channel that is owned. -/
import Derived.Test.YtacnogbdifgmeaaChecked
import Derived.Test.YtacnogbdifgmeaaSelect
import Derived.Test.YtacnogbdifgmeaaRowsHP
import Derived.BigQuiet
set_option linter.unusedVariables false
set_option linter.unusedSimpArgs false
namespace Go.Proofs.Ytacnogbdifgmeaa
open Go.RowKit Go.Conc Go.Proofs.YtacnogbdifgmeaaW.PrintWords

/-- A queue: what lies in it, what is lost. -/
def queS (p : Nat) (cap : Nat) (xs : List ByteArray) (lost : Int) : HP := HP.ex fun c : Nat => blk p (.cells #[.chan (some c), .int .i64 lost] 98) * chn (Value.string) c cap xs
theorem queS_open {w0 w : World} {F : HP} {p cap : Nat} {xs : List ByteArray} {lost : Int} (h : Hw w0 w (queS p cap xs lost * F)) :
    ∃ c, Hw w0 w (blk p (.cells #[.chan (some c), .int .i64 lost] 98) * (chn (Value.string) c cap xs * F)) := by
  obtain ⟨c, h⟩ := Hw.ex_mul.1 h
  exact ⟨c, h.as (by ac_rfl)⟩
theorem queS_mk {w0 w : World} {F : HP} {p cap c : Nat} {xs : List ByteArray} {lost : Int} (h : Hw w0 w (blk p (.cells #[.chan (some c), .int .i64 lost] 98) * (chn (Value.string) c cap xs * F))) : Hw w0 w (queS p cap xs lost * F) :=
  Hw.ex_mul.2 ⟨c, h.as (by ac_rfl)⟩
theorem queS_facts {w0 w : World} {F : HP} {p cap : Nat} {xs : List ByteArray} {lost : Int} (h : Hw w0 w (queS p cap xs lost * F)) :
    ∃ c, w.cell? ⟨p, 0, none⟩ = some (.chan (some c)) ∧ w.cell? ⟨p, 1, none⟩ = some (.int .i64 lost) ∧ w.frozen? ⟨p, 1, none⟩ = false ∧
      Hw w0 w (blk p (.cells #[.chan (some c), .int .i64 lost] 98) * (chn (Value.string) c cap xs * F)) := by
  obtain ⟨c, h⟩ := queS_open h
  exact ⟨c, h.cell (i := 0) rfl, h.cell (i := 1) rfl, h.unfrozen 1, h⟩
theorem Try.infoS_bytes : ∃ i, Try.prog.info? 9 = some i ∧ i.bytes = 16 := by
  have h : (Try.prog.info? 9).map (·.bytes) = some 16 := by kernel_rfl
  obtain ⟨i, hi, hb⟩ := Option.map_eq_some_iff.1 h
  exact ⟨i, hi, hb⟩
set_option maxRecDepth 100000 in
theorem qnewS_ok (k : Nat) (h0 : 1 ≤ k) (h1 : k ≤ 4096) {w0 w : World} {F : HP} (h : Hw w0 w F) :
    Calls Try.prog 33 #[.int .i64 k] w fun e w' => ∃ p : Nat, e = .returned (.tuple #[.pointer (some ⟨p, 0, none⟩), .int .i64 0]) ∧ Hw w0 w' (queS p k [] 0 * F) := by
  have hh := Aside0.mk h
  have hmk : ∀ W : World, (Instr.makeChan 96 (.int .i64 k)).run Try.prog W = .ok (.chan (some W.heap.size)) (W.alloc (.chan k #[] false 0 0 false)) := fun W => by
    obtain ⟨i, hi, hb⟩ := Try.infoS_bytes
    exact run_makeChan (P := Try.prog) (w := W) Try.underlying96 hi .i64 k (by omega) (by rw [hb]; omega)
  have d1 : decide ((k : Int) < 1) = false := by simp; omega
  have d2 : decide ((4096 : Int) < k) = false := by simp; omega
  clear h
  go_enter Try.func33, Try.ntmps33
  go_wp2_with fail
  go_ret2
  have h2 := (chn_new (enc := Value.string) (cap := k) hh.out).alloc (.cells #[.chan (some w.heap.size), .int .i64 0] 98)
  rw [World.size_alloc] at h2
  exact ⟨_, rfl, queS_mk h2⟩
theorem qnewS_bad (size : Int) (hr : size < 1 ∨ 4096 < size) {w : World} :
    Calls Try.prog 33 #[.int .i64 size] w fun e w' => e = .returned (.tuple #[.pointer none, .int .i64 1]) ∧ w' = w := by
  rcases hr with h | h
  · go_enter Try.func33, Try.ntmps33
    go_wp2
    go_ret2
    exact ⟨rfl, rfl⟩
  · have h' : ¬ size < 1 := by omega
    go_enter Try.func33, Try.ntmps33
    go_wp2
    go_ret2
    exact ⟨rfl, rfl⟩
theorem qlenS_ok (p cap : Nat) (xs : List ByteArray) (lost : Int) {w0 w : World} {F : HP} (h : Hw w0 w (queS p cap xs lost * F)) :
    Calls Try.prog 43 #[.pointer (some ⟨p, 0, none⟩)] w fun e w' => e = .returned (.int .i64 xs.length) ∧ w' = w := by
  obtain ⟨c, k0, k1, f1, hh⟩ := queS_facts h
  have hl : ∀ ty, (Builtin.len_ #[96] ty #[.chan (some c)]).run Try.prog w = .ok (.int .i64 xs.length) w := fun ty => chn_len (ty := ty) Try.underlying96 (hh.as (Q := chn (Value.string) c cap xs * (blk p (.cells #[.chan (some c), .int .i64 lost] 98) * F)) (by ac_rfl))
  clear hh h
  go_enter Try.func43, Try.ntmps43
  go_wp2_with fail
  go_ret
  exact ⟨rfl, rfl⟩
theorem qlostS_ok (p cap : Nat) (xs : List ByteArray) (lost : Int) {w0 w : World} {F : HP} (h : Hw w0 w (queS p cap xs lost * F)) :
    Calls Try.prog 44 #[.pointer (some ⟨p, 0, none⟩)] w fun e w' => e = .returned (.int .i64 lost) ∧ w' = w := by
  obtain ⟨c, k0, k1, f1, hh⟩ := queS_facts h
  clear hh h
  go_enter Try.func44, Try.ntmps44
  go_wp2_with fail
  go_ret
  exact ⟨rfl, rfl⟩
theorem qtakeS_some (p cap : Nat) (x : ByteArray) (xs : List ByteArray) (lost : Int) {w0 w : World} {F : HP} (h : Hw w0 w (queS p cap (x :: xs) lost * F)) :
    Calls Try.prog 38 #[.pointer (some ⟨p, 0, none⟩)] w fun e w' => e = .returned (.tuple #[Value.string x, .bool true]) ∧ Hw w0 w' (queS p cap xs lost * F) := by
  obtain ⟨c, k0, k1, f1, hh⟩ := queS_facts h
  have HH := Aside0.mk hh
  clear hh h
  go_enter Try.func38, Try.ntmps38
  go_upto_region 2 with fail
  refine sel_take (v := x) (r := xs) (HH.out.as (Q := chn (Value.string) c cap (x :: xs) * (blk p (.cells #[.chan (some c), .int .i64 lost] 98) * F)) (by ac_rfl)) rfl rfl rfl rfl (Try.zeroValue9 _) (fun w1 h1 => ?_)
  have H1 := Aside0.mk (h1.out.as (Q := blk p (.cells #[.chan (some c), .int .i64 lost] 98) * (chn (Value.string) c cap xs * F)) (by ac_rfl))
  clear h1 HH
  go_wp2_with fail
  go_ret2
  exact ⟨rfl, queS_mk H1.out⟩
theorem qtakeS_none (p cap : Nat) (lost : Int) {w0 w : World} {F : HP} (h : Hw w0 w (queS p cap [] lost * F)) :
    Calls Try.prog 38 #[.pointer (some ⟨p, 0, none⟩)] w fun e w' => e = .returned (.tuple #[(.string ByteArray.empty), .bool false]) ∧ w' = w := by
  obtain ⟨c, k0, k1, f1, hh⟩ := queS_facts h
  have HH := Aside0.mk hh
  clear hh h
  go_enter Try.func38, Try.ntmps38
  go_upto_region 2 with fail
  refine sel_none (HH.out.as (Q := chn (Value.string) c cap [] * (blk p (.cells #[.chan (some c), .int .i64 lost] 98) * F)) (by ac_rfl)) rfl rfl rfl rfl (Try.zeroValue9 _) ?_
  go_wp2_with fail
  go_ret2
  exact ⟨rfl, rfl⟩
set_option maxHeartbeats 800000 in
set_option maxRecDepth 100000 in
theorem qputS_ok (p cap : Nat) (xs ys : List ByteArray) (lost : Int) (A : Option Addr) (n c : Nat) (hn : n = ys.length) {w0 w : World} {F : HP} (h : Hw w0 w (queS p cap xs lost * F)) (h0 : 0 ≤ lost) (h1 : lost + n ≤ 4611686018427387904)
    (hE : Ent w0 F (fun w => (Kd.string).C w A n ys)) (hcap : cap ≤ 4096) :
    Calls Try.prog 36 #[.pointer (some ⟨p, 0, none⟩), .slice A n c] w fun e w' => ∃ k : Nat, k = min n (cap - xs.length) ∧ e = .returned (.int .i64 k) ∧
      Hw w0 w' (queS p cap (xs ++ ys.take k) (lost + ((n - k : Nat) : Int)) * F) := by
  have HH := Aside0.mk h
  have HE := Aside0.mk hE
  have HN := Aside0.mk hn
  obtain ⟨rm, hrm⟩ : ∃ rm, rm = cap - xs.length := ⟨_, rfl⟩
  have RM := Aside0.mk hrm
  have hrc : rm ≤ 4096 := by omega
  have hxs : Aside0 (xs.length ≤ cap ∨ cap < xs.length) := ⟨by omega⟩
  rw [← hrm]
  clear h hE hn hrm
  go_enter Try.func36, Try.ntmps36
  go_wp2_with fail
  go_loopw [10, 5] (fun i r wr => ∃ (k : Nat), k ≤ n ∧ i = .int .i64 k ∧ r = .int .i64 (min k rm : Nat) ∧
    Aside0 (Hw w0 wr (queS p cap (xs ++ ys.take (min k rm)) (lost + ((k - rm : Nat) : Int)) * F))) (fun i _ _ => n - (intOf i).toNat)
  case atStart => exact ⟨0, Nat.zero_le _, rfl, by simp, ⟨by simpa using HH.out⟩⟩
  case round =>
    obtain ⟨k, hk, rfl, rfl, HW⟩ := hrel
    clear HH
    by_cases hlt : k < n
    · obtain ⟨ad, x, e1, hcell, hx⟩ := C_scalar_at (HE.out _ HW.out.right) k hlt
      subst e1
      obtain ⟨ch, k0, k1, f1, hh⟩ := queS_facts HW.out
      have HH := Aside0.mk hh
      clear hh
      by_cases hr : k < rm
      · have e1 : min k rm = k := by omega
        have e2 : k - rm = 0 := by omega
        rw [e1, e2] at HH HW
        rw [e1]
        rw [e2] at k1
        have hlen : (xs ++ ys.take k).length < cap := by have h1 := RM.out; have h2 := HN.out; rw [List.length_append, List.length_take]; omega
        have HL := Aside0.mk hlen
        clear hlen e1 e2
        go_upto_region 7 with fail
        refine sel_put (v := x) (HH.out.as (Q := chn (Value.string) ch cap (xs ++ ys.take k) * (blk p (.cells #[.chan (some ch), .int .i64 (lost + ((0 : Nat) : Int))] 98) * F)) (by ac_rfl)) HL.out rfl rfl rfl rfl rfl (Try.zeroValue9 _) (fun w1 hw1 => ?_)
        have H1 := Aside0.mk (hw1.out.as (Q := blk p (.cells #[.chan (some ch), .int .i64 (lost + ((0 : Nat) : Int))] 98) * (chn (Value.string) ch cap (xs ++ ys.take k ++ [x]) * F)) (by ac_rfl))
        clear hw1 HH HW k0 k1 f1
        go_wp2_with fail
        go_roundw
        case rel => exact ⟨k + 1, by omega, by go_num, by rw [show min (k + 1) rm = k + 1 by omega]; go_num, ⟨by
          rw [show min (k + 1) rm = k + 1 by omega, show k + 1 - rm = 0 by omega, List.take_add_one, hx.out]
          rw [List.append_assoc] at H1
          exact queS_mk H1.out⟩⟩
        case measure => simp [intOf]; omega
      · have e1 : min k rm = rm := by omega
        rw [e1] at HH HW
        rw [e1]
        have hlen : cap ≤ (xs ++ ys.take rm).length := by have h1 := RM.out; have h2 := HN.out; rw [List.length_append, List.length_take]; omega
        have HL := Aside0.mk hlen
        obtain ⟨lo, hlo⟩ : ∃ lo : Int, lo = lost + ((k - rm : Nat) : Int) := ⟨_, rfl⟩
        have LO := Aside0.mk hlo
        have hlo1 : 0 ≤ lo ∧ lo ≤ 4611686018427387904 := by omega
        obtain ⟨hl1, hl2⟩ := hlo1
        rw [← hlo] at HH k1
        clear hlen e1 hlo
        go_upto_region 7 with fail
        refine sel_full (v := x) (HH.out.as (Q := chn (Value.string) ch cap (xs ++ ys.take rm) * (blk p (.cells #[.chan (some ch), .int .i64 lo] 98) * F)) (by ac_rfl)) HL.out rfl rfl rfl rfl rfl (Try.zeroValue9 _) ?_
        have H1 := Aside0.mk (HH.out.set 1 (.int .i64 (lo + 1)))
        clear HH HW
        go_wp2_with fail
        go_roundw
        case rel => exact ⟨k + 1, by omega, by go_num, by rw [show min (k + 1) rm = rm by omega], ⟨by
          rw [show min (k + 1) rm = rm by omega, show lost + ((k + 1 - rm : Nat) : Int) = lo + 1 by have := LO.out; omega]
          exact queS_mk H1.out⟩⟩
        case measure => simp [intOf]; omega
    · have ek : k = n := by omega
      subst ek
      go_wp2_with fail
      go_ret
      refine ⟨min k rm, rfl, rfl, ?_⟩
      rw [show k - min k rm = k - rm by omega]
      exact HW.out
theorem Try.infoS_a : (Try.prog.info? 9).map (fun i => (i.zero, i.size, i.bytes)) = some (some (.string ByteArray.empty), 1, 16) := by kernel_rfl
def lenOfS (v : Value) : Nat := match v with | .slice _ n _ => n | _ => 0
set_option maxHeartbeats 800000 in
set_option maxRecDepth 100000 in
theorem qallS_ok (p cap : Nat) (xs : List ByteArray) (lost : Int) {w0 w : World} {F : HP} (h : Hw w0 w (queS p cap xs lost * F)) (hx : xs.length ≤ 4096) :
    Calls Try.prog 40 #[.pointer (some ⟨p, 0, none⟩)] w fun e w' => ∃ A c, e = .returned (.slice A xs.length c) ∧ xs.length ≤ c ∧
      Hw w0 w' (row (Kd.string) 9 (.slice A xs.length c) xs * (queS p cap [] lost * F)) := by
  have HH := Aside0.mk h
  clear h
  go_enter Try.func40, Try.ntmps40
  go_wp2_with fail
  go_loopw [3] (fun o wr => ∃ (A1 : Option Addr) (n1 c1 : Nat) (done rest : List ByteArray), o = .slice A1 n1 c1 ∧ Aside0 (done.length = n1 ∧ done ++ rest = xs) ∧
    Aside0 (Hw w0 wr (row (Kd.string) 9 (.slice A1 n1 c1) done * (queS p cap rest lost * F)))) (fun o _ => xs.length - lenOfS o)
  case atStart => exact ⟨none, 0, 0, [], xs, rfl, ⟨rfl, rfl⟩, ⟨HH.out.row_nil (Kd.string) 9⟩⟩
  case round =>
    obtain ⟨A1, n1, c1, done, rest, rfl, HX, HW⟩ := hrel
    clear HH
    obtain ⟨ch, k0, k1, f1, hh⟩ := queS_facts (HW.out.as (Q := queS p cap rest lost * (row (Kd.string) 9 (.slice A1 n1 c1) done * F)) (by ac_rfl))
    have HH := Aside0.mk (hh.as (Q := chn (Value.string) ch cap rest * (blk p (.cells #[.chan (some ch), .int .i64 lost] 98) * (row (Kd.string) 9 (.slice A1 n1 c1) done * F))) (by ac_rfl))
    clear hh HW k1 f1
    go_upto_region 3 with fail
    cases rest with
    | nil =>
      refine sel_none HH.out rfl rfl rfl rfl (Try.zeroValue9 _) ?_
      have hd : done = xs := by have := HX.out.2; rwa [List.append_nil] at this
      subst hd
      have hn : n1 = done.length := HX.out.1.symm
      subst hn
      have H1 := Aside0.mk (HH.out.as (Q := blk p (.cells #[.chan (some ch), .int .i64 lost] 98) * (chn (Value.string) ch cap [] * (row (Kd.string) 9 (.slice A1 done.length c1) done * F))) (by ac_rfl))
      have H2 := Aside0.mk ((queS_mk H1.out).as (Q := row (Kd.string) 9 (.slice A1 done.length c1) done * (queS p cap [] lost * F)) (by ac_rfl))
      obtain ⟨A9, c9, e9, hl9, _⟩ := H2.out.row_reads
      injection e9 with e91 e92 e93
      subst e91
      subst e93
      clear HH H1 k0 HX
      go_wp2_with fail
      go_ret
      exact ⟨_, _, rfl, hl9, H2.out⟩
    | cons x r =>
      refine sel_take (v := x) (r := r) HH.out rfl rfl rfl rfl (Try.zeroValue9 _) (fun w1 h1 => ?_)
      have hlen : (done.length + 1) * 16 ≤ 140737488355328 := by
        have := congrArg List.length HX.out.2
        simp only [List.length_append, List.length_cons] at this
        omega
      have H1 := Aside0.mk (h1.out.as (Q := row (Kd.string) 9 (.slice A1 n1 c1) done * (blk p (.cells #[.chan (some ch), .int .i64 lost] 98) * (chn (Value.string) ch cap r * F))) (by ac_rfl))
      clear h1 HH k0
      go_wp2_with (at_builtin; refine Hw.append_row (Value.string) (ByteArray.empty) rfl (.tmp 13) (.tmp 15) 68 9 (.string ByteArray.empty) 16 rfl Try.underlying68 Try.infoS_a rfl (by decide) _ done [x] _ 1 1 rfl rfl (H1.out.right_alloc _) (C_blk (h1 := fun _ => rfl) (by simp) (H1.out.alloc _).blk_at.1) hlen ?_; intro A3 n3 c3 w3 hn3 hw3; obtain rfl : n3 = n1 + 1 := (by have h1 := HX.out.1; have h2 := hn3.out; simp only [List.length_append, List.length_cons, List.length_nil] at h2; omega); have HW3 := Aside0.mk hw3; clear hn3 hw3)
      go_roundw
      case rel => exact ⟨A3, n1 + 1, c3, done ++ [x], r, rfl, ⟨by simp [HX.out.1], by simpa using HX.out.2⟩, ⟨(queS_mk ((HW3.out.as (Q := blk p (.cells #[.chan (some ch), .int .i64 lost] 98) * (chn (Value.string) ch cap r * (row (Kd.string) 9 (.slice A3 (n1 + 1) c3) (done ++ [x]) * F)) * blk w1.heap.size (.cells ([x].map (Value.string)).toArray 9 (0, 0))) (by ac_rfl)).left)).as (by ac_rfl)⟩⟩
      case measure =>
        have := congrArg List.length HX.out.2
        have h1 := HX.out.1
        simp only [List.length_append, List.length_cons] at this
        simp only [lenOfS]
        omega
theorem qlenS_q (p cap : Nat) (xs : List ByteArray) (lost : Int) (k : Nat) (hk : xs.length = k) {w0 w : World} {F : HP} {n : Nat} (h : Hw w0 (w.drewN n) (queS p cap xs lost * F)) :
    Calls Try.prog 43 #[.pointer (some ⟨p, 0, none⟩)] (w.drewN n) fun e w' => e = .returned (.int .i64 k) ∧ ∃ m, w' = w.drewN m := by
  subst hk
  refine (qlenS_ok p cap xs lost h).mono ?_
  rintro e w' ⟨rfl, rfl⟩
  exact ⟨rfl, n, rfl⟩
theorem qlostS_q (p cap : Nat) (xs : List ByteArray) (lost : Int) {w0 w : World} {F : HP} {n : Nat} (h : Hw w0 (w.drewN n) (queS p cap xs lost * F)) :
    Calls Try.prog 44 #[.pointer (some ⟨p, 0, none⟩)] (w.drewN n) fun e w' => e = .returned (.int .i64 lost) ∧ ∃ m, w' = w.drewN m := by
  refine (qlostS_ok p cap xs lost h).mono ?_
  rintro e w' ⟨rfl, rfl⟩
  exact ⟨rfl, n, rfl⟩
theorem Try.infoS_q : ∃ j, Try.prog.info? 98 = some j ∧ j.size ≠ 0 := by
  have h : (Try.prog.info? 98).map (·.size) = some 2 := by kernel_rfl
  obtain ⟨i, hi, hb⟩ := Option.map_eq_some_iff.1 h
  exact ⟨i, hi, by rw [hb]; decide⟩
set_option maxHeartbeats 1600000 in
set_option maxRecDepth 100000 in
theorem qpourS_ok (p q cf ct : Nat) (xs ys : List ByteArray) (lf lt : Int) (hpq : p ≠ q) {w0 w : World} {F : HP} (h : Hw w0 w (queS p cf xs lf * (queS q ct ys lt * F))) (hx : xs.length ≤ 4096) (hy : ys.length ≤ ct) (hct : ct ≤ 4096) (h0 : 0 ≤ lt) (h1 : lt ≤ 4611686018427387900) :
    Calls Try.prog 42 #[.pointer (some ⟨p, 0, none⟩), .pointer (some ⟨q, 0, none⟩)] w fun e w' => ∃ k : Nat, k = min xs.length (ct - ys.length) ∧ e = .returned (.int .i64 k) ∧
      Hw w0 w' (queS p cf (xs.drop k) lf * (queS q ct (ys ++ xs.take k) lt * F)) := by
  have HH := Aside0.mk h
  clear h
  obtain ⟨n, hn⟩ : ∃ n, xs.length = n := ⟨_, rfl⟩
  obtain ⟨m, hm⟩ : ∃ m, ys.length = m := ⟨_, rfl⟩
  rw [hn] at hx
  rw [hn, hm]
  rw [hm] at hy
  have HN := Aside0.mk hn
  have HM := Aside0.mk hm
  clear hn hm
  go_enter Try.func42, Try.ntmps42
  go_wp2_with fail
  have h8 := qlenS_ok p cf xs lf HH.out
  rw [HN.out] at h8
  refine h8.mono ?_
  clear h8
  rintro e w1 ⟨rfl, rfl⟩
  go_wp2_with fail
  go_loopw [10, 5] (fun i r wr => ∃ (k : Nat), k ≤ n ∧ k + m ≤ ct ∧ i = .int .i64 k ∧ r = .int .i64 k ∧
    Aside0 (Hw w0 wr (queS p cf (xs.drop k) lf * (queS q ct (ys ++ xs.take k) lt * F)))) (fun i _ _ => n - (intOf i).toNat)
  case atStart => exact ⟨0, Nat.zero_le _, by omega, rfl, rfl, ⟨by simpa using HH.out⟩⟩
  case round =>
    obtain ⟨k, hk, hkm, rfl, rfl, HW⟩ := hrel
    clear HH
    by_cases hlt : k < n
    · have hlen : (ys ++ xs.take k).length = m + k := by have := HN.out; have := HM.out; rw [List.length_append, List.length_take]; omega
      have HL := Aside0.mk hlen
      have HQ := Aside0.mk (HW.out.as (Q := queS q ct (ys ++ xs.take k) lt * (queS p cf (xs.drop k) lf * F)) (by ac_rfl))
      obtain ⟨ch, k0, k1, f1, hh⟩ := queS_facts HQ.out
      have hcap : ∀ nq ty, (Builtin.cap_ #[96] ty #[.chan (some ch)]).run Try.prog (wr.drewN nq) = .ok (.int .i64 ct) (wr.drewN nq) := fun nq ty => chn_cap (enc := Value.string) (ty := ty) Try.underlying96 ((hh.drewN nq).as (Q := chn (Value.string) ch ct (ys ++ xs.take k) * (blk q (.cells #[.chan (some ch), .int .i64 lt] 98) * (queS p cf (xs.drop k) lf * F))) (by ac_rfl))
      have kq : ∀ nq, (wr.drewN nq).cell? ⟨q, 0, none⟩ = some (.chan (some ch)) := fun nq => k0
      clear hh hlen f1 k1 k0
      by_cases hf : m + k = ct
      · have hm : n - k = n - k := rfl
        have ek : k = min n (ct - m) := by omega
        have EK := Aside0.mk ek
        clear ek hm
        obtain ⟨chp, _, _, _, hhp⟩ := queS_facts HW.out
        obtain ⟨chq, _, _, _, hhq⟩ := queS_facts HQ.out
        have hne : ∀ nq, (binOp .neq 66 (.pointer (some ⟨p, 0, none⟩)) (.pointer (some ⟨q, 0, none⟩))).run Try.prog (wr.drewN nq) = .ok (.bool true) (wr.drewN nq) := fun nq =>
          run_neq_ptr_other (te := 98) Try.underlying66 Try.infoS_q (by simp [hpq]) (hhp.drewN nq).blk_at.1 (hhq.drewN nq).blk_at.1
        clear hhp hhq
        go_upto_region 4 with fail
        subst hf
        refine wp_region_quiet_lit (by kernel_rfl) (by kernel_rfl) ?_
        repeat (go_big_quiet_step ((go_at_call 43; exact qlenS_q q _ _ lt _ HL.out (HQ.out.drewN _))))
        refine wpQuiet_nil ?_
        intro _ hw'
        obtain ⟨nq, hw''⟩ := hw'
        subst hw''
        go_wp2_with fail
        go_ret
        exact ⟨k, EK.out, rfl, HW.out.drewN nq⟩
      · have d1 : (((m : Int) + (k : Int)) == (ct : Int)) = false := beq_eq_false_iff_ne.2 (by omega)
        go_upto_region 4 with fail
        refine wp_region_quiet_lit (by kernel_rfl) (by kernel_rfl) ?_
        repeat (go_big_quiet_step ((go_at_call 43; exact qlenS_q q _ _ lt _ HL.out (HQ.out.drewN _))))
        refine wpQuiet_nil ?_
        intro _ hw'
        obtain ⟨nq, hw''⟩ := hw'
        subst hw''
        clear hcap kq
        obtain ⟨x, hx⟩ : ∃ x, xs[k]? = some x := ⟨_, List.getElem?_eq_getElem (by have := HN.out; omega)⟩
        have hd : xs.drop k = x :: xs.drop (k + 1) := by rw [List.drop_eq_getElem?_toList_append, hx]; rfl
        have ht : xs.take (k + 1) = xs.take k ++ [x] := by rw [List.take_add_one, hx]; rfl
        have HT := Aside0.mk ht
        have H2 := Aside0.mk (HW.out.drewN nq)
        rw [hd] at H2
        clear hx hd ht HW HQ
        go_wp2_with fail
        refine (qtakeS_some p cf x (xs.drop (k + 1)) lf H2.out).mono ?_
        rintro e w2 ⟨rfl, h3⟩
        have H3 := Aside0.mk (h3.as (Q := queS q ct (ys ++ xs.take k) lt * (queS p cf (xs.drop (k + 1)) lf * F)) (by ac_rfl))
        clear h3 H2
        go_wp2_with fail
        have HB := Aside0.mk (H3.out.right_alloc (.cells ([x].map (Value.string)).toArray 9 (0, 0)))
        refine (qputS_ok q ct (ys ++ xs.take k) [x] lt _ 1 1 rfl HB.out h0 (by omega) (fun w' h' => C_blk (h1 := fun _ => rfl) (by simp) h'.blk_at.1) hct).mono ?_
        rintro e w3 ⟨k3, hk3, rfl, h4⟩
        have e3 : k3 = 1 := by have h1 := HL.out; rw [h1] at hk3; omega
        subst e3
        have H4 := Aside0.mk (h4.as (Q := queS p cf (xs.drop (k + 1)) lf * (queS q ct (ys ++ xs.take (k + 1)) lt * F) * blk w2.heap.size (.cells ([x].map (Value.string)).toArray 9 (0, 0))) (by
          rw [HT.out]
          have e4 : lt + ((1 - 1 : Nat) : Int) = lt := by omega
          rw [e4, List.take_of_length_le (l := [x]) (by simp), List.append_assoc]
          ac_rfl)).left
        clear h4 H3 HB hk3
        go_wp2_with fail
        go_roundw
        case rel => exact ⟨k + 1, by omega, by omega, by go_num, by go_num, ⟨H4.out⟩⟩
        case measure => simp [intOf]; omega
    · have ek : k = n := by omega
      subst ek
      go_wp2_with fail
      go_ret
      exact ⟨k, by omega, rfl, HW.out⟩
theorem qlenS_k (p cap : Nat) (xs : List ByteArray) (lost : Int) (k : Nat) (hk : xs.length = k) {w0 w : World} {F : HP} (h : Hw w0 w (queS p cap xs lost * F)) :
    Calls Try.prog 43 #[.pointer (some ⟨p, 0, none⟩)] w fun e w' => e = .returned (.int .i64 k) ∧ w' = w := by
  subst hk
  exact qlenS_ok p cap xs lost h
theorem queS_ne {w0 w : World} {p q cp cq : Nat} {xs ys : List ByteArray} {lp lq : Int} {F : HP} (h : Hw w0 w (queS p cp xs lp * (queS q cq ys lq * F))) : p ≠ q := by
  obtain ⟨c, _, _, _, h1⟩ := queS_facts h
  obtain ⟨c', _, _, _, h2⟩ := queS_facts (h1.as (Q := queS q cq ys lq * (blk p (.cells #[.chan (some c), .int .i64 lp] 98) * (chn (Value.string) c cp xs * F))) (by ac_rfl))
  exact (h2.as (Q := blk p (.cells #[.chan (some c), .int .i64 lp] 98) * (blk q (.cells #[.chan (some c'), .int .i64 lq] 98) * (chn (Value.string) c' cq ys * (chn (Value.string) c cp xs * F)))) (by ac_rfl)).ne
end Go.Proofs.Ytacnogbdifgmeaa
