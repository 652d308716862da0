/- The sink: the lists of a message, one contract each. Printed by gen/codel.py. -/
import Derived.Test.YtloiclalcepbeaaCodeL
set_option linter.unusedVariables false
set_option linter.unusedSimpArgs false
namespace Go.Proofs.Ytloiclalcepbeaa
open Go.RowKit Go.Proofs.YtloiclalcepbeaaW.PrintWords Go.Proofs.YtloiclalcepbeaaW.PrintLast
abbrev KTup := Kd.pair Kd.string (Kd.pair Kd.string Kd.string)
abbrev KMut := Kd.pair Kd.bool KTup
abbrev KRow := Kd.pair KTup (Kd.pair (Kd.int .i64) (Kd.int .i64))
abbrev mutC (m : Mut) : List Value := [.bool m.1, .string m.2.1, .string m.2.2.1, .string m.2.2.2]
abbrev rowC (r : Rw) : List Value := [.string r.1.1, .string r.1.2.1, .string r.1.2.2, .int .i64 r.2.1, .int .i64 r.2.2]
theorem KMut_cells {w : World} {m : Mut} {cs : List Value} (h : KMut.K w m cs) : cs = mutC m := by
  obtain ⟨c0, c1, rfl, h0, c2, c3, rfl, h2, c4, c5, rfl, h4, h5⟩ := h
  have h0 : c0 = [.bool m.1] := h0
  have h2 : c2 = [.string m.2.1] := h2
  have h4 : c4 = [.string m.2.2.1] := h4
  have h5 : c5 = [.string m.2.2.2] := h5
  subst h0 h2 h4 h5
  rfl
theorem KRow_cells {w : World} {m : Rw} {cs : List Value} (h : KRow.K w m cs) : cs = rowC m := by
  obtain ⟨c0, c1, rfl, ⟨c2, c3, rfl, h2, c4, c5, rfl, h4, h5⟩, c6, c7, rfl, h6, h7⟩ := h
  have h2 : c2 = [.string m.1.1] := h2
  have h4 : c4 = [.string m.1.2.1] := h4
  have h5 : c5 = [.string m.1.2.2] := h5
  have h6 : c6 = [.int .i64 m.2.1] := h6
  have h7 : c7 = [.int .i64 m.2.2] := h7
  subst h2 h4 h5 h6 h7
  rfl
/-- The cells of an element of a row of structs. -/
theorem elem_at {α : Type} {d : Kd α} {w0 w : World} {A : Option Addr} {n : Nat} {ts : List α} (cs : α → List Value) (hcs : ∀ {w x l}, d.K w x l → l = cs x) (h : d.C w0 A n ts) (hb : Below w0.heap.size w0 w) (k : Nat) (hk : k < n) :
    ∃ ad x, A = some ad ∧ Aside0 (ts[k]? = some x) ∧ ∀ (i : Nat) (v : Value), (cs x)[i]? = some v → w.cell? (ad.add (k * d.sz + i)) = some v := by
  obtain ⟨ad, e, hc⟩ := h.2.2 (by omega)
  have hl : k < ts.length := by have := h.1; omega
  obtain ⟨c, hs, hK, hcell⟩ := hc k _ (List.getElem?_eq_getElem hl)
  obtain rfl := hcs hK
  exact ⟨ad, ts[k], e, ⟨List.getElem?_eq_getElem hl⟩, fun i v hv => pw_cell_below hb (hcell i v hv)⟩
section
variable {w0 w : World} {F : HP} {p b : Nat} {xs : List Int}

set_option maxHeartbeats 3200000 in
set_option maxRecDepth 100000 in
theorem slist2_ok (A : Option Addr) (n c : Nat) (ms : List Mut) (hC : KMut.C w0 A n ms) (hok : ∀ m ∈ ms, okM m) (hl : xs.length ≤ 140737487000000) (h : Hw w0 w (sinkP p xs * (capP b p * F))) :
    Calls Try.prog 55 #[.pointer (some ⟨p, 0, none⟩), .slice A n c, .func (.func 56) #[] #[.pointer (some ⟨b, 0, none⟩)]] w
      (SinkPost w0 (capP b p * F) p xs (n ≤ 1024 ∧ ∀ m ∈ ms, fitsM m) (encI n ++ ms.flatMap encM)) := by
  have HC := Aside0.mk hC
  have OK := Aside0.mk hok
  have hnl := hC.1
  have H1 := Aside0.mk h
  clear hC h hok
  by_cases hlong : 1024 < n
  · have d1 : decide ((1024 : Int) < n) = true := decide_eq_true (by omega)
    have d2 : decide (1024 < n) = true := decide_eq_true hlong
    clear hnl
    go_enter Try.func55, Try.ntmps55
    go_wp2_with fail
    exact ⟨rfl, .inr ⟨fun hh => by omega, rfl, _, H1.out⟩⟩
  · have d1 : decide ((1024 : Int) < n) = false := decide_eq_false (by omega)
    have d2 : decide (1024 < n) = false := decide_eq_false hlong
    have hi : i64r (n : Int) := by unfold i64r; omega
    have EN := Aside0.mk (encI_len n hi)
    have NL := Aside0.mk hnl
    have hn1024 : n ≤ 1024 := by omega
    clear hnl
    go_enter Try.func55, Try.ntmps55
    go_wp2_with fail
    refine (sint_ok n hi (by omega) H1.out).mono ?_
    rintro e w1 ⟨rfl, g1⟩
    have H2 := Aside0.mk g1
    clear g1 H1 d1 d2
    go_wp2_with fail
    go_loopw [19] (fun i wr => ∃ k : Nat, k ≤ n ∧ i = .int .i64 k ∧ Aside0 (∀ m ∈ ms.take k, fitsM m) ∧ Aside0 (Hw w0 wr (sinkP p (xs ++ encI n ++ (ms.take k).flatMap encM) * (capP b p * F)))) (fun i _ => n - (intOf i).toNat)
    case atStart => exact ⟨0, Nat.zero_le _, rfl, ⟨by intro m hm; simp at hm⟩, ⟨by simpa using H2.out⟩⟩
    case round =>
      obtain ⟨k, hk, rfl, HF, HW⟩ := hrel
      clear H2
      by_cases hlt : k < n
      · obtain ⟨ad, m, rfl, hm, hcl⟩ := elem_at mutC @KMut_cells HC.out HW.out.below k hlt
        have hkk := flat_take encM hm.out
        have FT := Aside0.mk hkk
        have TK := Aside0.mk (take_snoc_of hm.out)
        have LB := Aside0.mk (show (xs ++ encI n ++ (ms.take k).flatMap encM).length ≤ 140737487900000 by
          have h1 := flat_len encM 440 (ms.take k) (fun m hm => encM_len m (OK.out m (List.mem_of_mem_take hm)) (HF.out m hm))
          rw [List.length_take] at h1
          simp only [List.length_append]
          have := EN.out
          omega)
        have hmo := OK.out m (List.mem_of_getElem? hm.out)
        have MO := Aside0.mk hmo
        have HMm := hm
        have k0 : wr.cell? (ad.add (k * 4 + 0)) = _ := hcl 0 _ rfl
        have k1 : wr.cell? (ad.add (k * 4 + 1)) = _ := hcl 1 _ rfl
        have k2 : wr.cell? (ad.add (k * 4 + 2)) = _ := hcl 2 _ rfl
        have k3 : wr.cell? (ad.add (k * 4 + 3)) = _ := hcl 3 _ rfl
        rw [add_field _ _ _ (by decide)] at k1
        rw [add_field _ _ _ (by decide)] at k2
        rw [add_field _ _ _ (by decide)] at k3
        have k0' : wr.cell? (ad.add (k * 4)) = _ := k0
        clear k0 hcl hkk hm hmo
        have HT := Aside0.mk (HW.out.alloc (.cells #[.bool m.1, .string m.2.1, .string m.2.2.1, .string m.2.2.2] 83))
        have t0 := HT.out.cellAt wr.heap.size 0 (v := .bool m.1) rfl
        have t1 := HT.out.cellAt wr.heap.size 1 (v := .string m.2.1) rfl
        have t2 := HT.out.cellAt wr.heap.size 2 (v := .string m.2.2.1) rfl
        have t3 := HT.out.cellAt wr.heap.size 3 (v := .string m.2.2.2) rfl
        have HT2 := Aside0.mk (HT.out.as (Q := sinkP p (xs ++ encI n ++ (ms.take k).flatMap encM) * (capP b p * (blk wr.heap.size (.cells #[.bool m.1, .string m.2.1, .string m.2.2.1, .string m.2.2.2] 83) * F))) (by ac_rfl))
        clear HT HW
        go_wp2_with fail
        refine (s2_one m (by have := LB.out; omega) HT2.out).mono ?_
        rintro e w4 (⟨hf, rfl, g4⟩ | ⟨hf, rfl, ys, g4⟩)
        · have HF2 := Aside0.mk (show ∀ x ∈ ms.take (k + 1), fitsM x by
            rw [TK.out]
            intro x hx
            rcases List.mem_append.1 hx with hx | hx
            · exact HF.out x hx
            · have hx : x = m := by simpa using hx
              rw [hx]; exact hf)
          have H4 := Aside0.mk (g4.as (Q := sinkP p (xs ++ encI n ++ (ms.take k).flatMap encM ++ encM m) * (capP b p * F) * blk wr.heap.size (.cells #[.bool m.1, .string m.2.1, .string m.2.2.1, .string m.2.2.2] 83)) (by ac_rfl)).left
          clear g4 hf HF t0 t1 t2 t3 k1 k2 k3 k0'
          go_wp2_with fail
          go_roundw
          case rel => exact ⟨k + 1, by omega, by go_num, HF2, ⟨by rw [FT.out, ← List.append_assoc]; exact H4.out⟩⟩
          case measure => simp [intOf]; omega
        · exact ⟨rfl, .inr ⟨fun hh => hf (hh.2 m (List.mem_of_getElem? HMm.out)), rfl, ys, (g4.as (Q := sinkP p ys * (capP b p * F) * blk wr.heap.size (.cells #[.bool m.1, .string m.2.1, .string m.2.2.1, .string m.2.2.2] 83)) (by ac_rfl)).left⟩⟩
      · have hk2 : k = n := by omega
        have et : ms.take k = ms := List.take_of_length_le (by rw [NL.out]; omega)
        rw [et] at HF HW
        clear et
        go_wp2_with fail
        go_end0
        exact .inl ⟨⟨hn1024, HF.out⟩, rfl, by rw [← List.append_assoc]; exact HW.out⟩

set_option maxHeartbeats 3200000 in
set_option maxRecDepth 100000 in
theorem slist3_ok (A : Option Addr) (n c : Nat) (ms : List Mut) (hC : KMut.C w0 A n ms) (hok : ∀ m ∈ ms, okM m) (hl : xs.length ≤ 140737487000000) (h : Hw w0 w (sinkP p xs * (capP b p * F))) :
    Calls Try.prog 58 #[.pointer (some ⟨p, 0, none⟩), .slice A n c, .func (.func 59) #[] #[.pointer (some ⟨b, 0, none⟩)]] w
      (SinkPost w0 (capP b p * F) p xs (n ≤ 1024 ∧ ∀ m ∈ ms, fitsM m) (encI n ++ ms.flatMap encM)) := by
  have HC := Aside0.mk hC
  have OK := Aside0.mk hok
  have hnl := hC.1
  have H1 := Aside0.mk h
  clear hC h hok
  by_cases hlong : 1024 < n
  · have d1 : decide ((1024 : Int) < n) = true := decide_eq_true (by omega)
    have d2 : decide (1024 < n) = true := decide_eq_true hlong
    clear hnl
    go_enter Try.func58, Try.ntmps58
    go_wp2_with fail
    exact ⟨rfl, .inr ⟨fun hh => by omega, rfl, _, H1.out⟩⟩
  · have d1 : decide ((1024 : Int) < n) = false := decide_eq_false (by omega)
    have d2 : decide (1024 < n) = false := decide_eq_false hlong
    have hi : i64r (n : Int) := by unfold i64r; omega
    have EN := Aside0.mk (encI_len n hi)
    have NL := Aside0.mk hnl
    have hn1024 : n ≤ 1024 := by omega
    clear hnl
    go_enter Try.func58, Try.ntmps58
    go_wp2_with fail
    refine (sint_ok n hi (by omega) H1.out).mono ?_
    rintro e w1 ⟨rfl, g1⟩
    have H2 := Aside0.mk g1
    clear g1 H1 d1 d2
    go_wp2_with fail
    go_loopw [19] (fun i wr => ∃ k : Nat, k ≤ n ∧ i = .int .i64 k ∧ Aside0 (∀ m ∈ ms.take k, fitsM m) ∧ Aside0 (Hw w0 wr (sinkP p (xs ++ encI n ++ (ms.take k).flatMap encM) * (capP b p * F)))) (fun i _ => n - (intOf i).toNat)
    case atStart => exact ⟨0, Nat.zero_le _, rfl, ⟨by intro m hm; simp at hm⟩, ⟨by simpa using H2.out⟩⟩
    case round =>
      obtain ⟨k, hk, rfl, HF, HW⟩ := hrel
      clear H2
      by_cases hlt : k < n
      · obtain ⟨ad, m, rfl, hm, hcl⟩ := elem_at mutC @KMut_cells HC.out HW.out.below k hlt
        have hkk := flat_take encM hm.out
        have FT := Aside0.mk hkk
        have TK := Aside0.mk (take_snoc_of hm.out)
        have LB := Aside0.mk (show (xs ++ encI n ++ (ms.take k).flatMap encM).length ≤ 140737487900000 by
          have h1 := flat_len encM 440 (ms.take k) (fun m hm => encM_len m (OK.out m (List.mem_of_mem_take hm)) (HF.out m hm))
          rw [List.length_take] at h1
          simp only [List.length_append]
          have := EN.out
          omega)
        have hmo := OK.out m (List.mem_of_getElem? hm.out)
        have MO := Aside0.mk hmo
        have HMm := hm
        have k0 : wr.cell? (ad.add (k * 4 + 0)) = _ := hcl 0 _ rfl
        have k1 : wr.cell? (ad.add (k * 4 + 1)) = _ := hcl 1 _ rfl
        have k2 : wr.cell? (ad.add (k * 4 + 2)) = _ := hcl 2 _ rfl
        have k3 : wr.cell? (ad.add (k * 4 + 3)) = _ := hcl 3 _ rfl
        rw [add_field _ _ _ (by decide)] at k1
        rw [add_field _ _ _ (by decide)] at k2
        rw [add_field _ _ _ (by decide)] at k3
        have k0' : wr.cell? (ad.add (k * 4)) = _ := k0
        clear k0 hcl hkk hm hmo
        have HT := Aside0.mk (HW.out.alloc (.cells #[.bool m.1, .string m.2.1, .string m.2.2.1, .string m.2.2.2] 91))
        have t0 := HT.out.cellAt wr.heap.size 0 (v := .bool m.1) rfl
        have t1 := HT.out.cellAt wr.heap.size 1 (v := .string m.2.1) rfl
        have t2 := HT.out.cellAt wr.heap.size 2 (v := .string m.2.2.1) rfl
        have t3 := HT.out.cellAt wr.heap.size 3 (v := .string m.2.2.2) rfl
        have HT2 := Aside0.mk (HT.out.as (Q := sinkP p (xs ++ encI n ++ (ms.take k).flatMap encM) * (capP b p * (blk wr.heap.size (.cells #[.bool m.1, .string m.2.1, .string m.2.2.1, .string m.2.2.2] 91) * F))) (by ac_rfl))
        clear HT HW
        go_wp2_with fail
        refine (s3_one m (by have := LB.out; omega) HT2.out).mono ?_
        rintro e w4 (⟨hf, rfl, g4⟩ | ⟨hf, rfl, ys, g4⟩)
        · have HF2 := Aside0.mk (show ∀ x ∈ ms.take (k + 1), fitsM x by
            rw [TK.out]
            intro x hx
            rcases List.mem_append.1 hx with hx | hx
            · exact HF.out x hx
            · have hx : x = m := by simpa using hx
              rw [hx]; exact hf)
          have H4 := Aside0.mk (g4.as (Q := sinkP p (xs ++ encI n ++ (ms.take k).flatMap encM ++ encM m) * (capP b p * F) * blk wr.heap.size (.cells #[.bool m.1, .string m.2.1, .string m.2.2.1, .string m.2.2.2] 91)) (by ac_rfl)).left
          clear g4 hf HF t0 t1 t2 t3 k1 k2 k3 k0'
          go_wp2_with fail
          go_roundw
          case rel => exact ⟨k + 1, by omega, by go_num, HF2, ⟨by rw [FT.out, ← List.append_assoc]; exact H4.out⟩⟩
          case measure => simp [intOf]; omega
        · exact ⟨rfl, .inr ⟨fun hh => hf (hh.2 m (List.mem_of_getElem? HMm.out)), rfl, ys, (g4.as (Q := sinkP p ys * (capP b p * F) * blk wr.heap.size (.cells #[.bool m.1, .string m.2.1, .string m.2.2.1, .string m.2.2.2] 91)) (by ac_rfl)).left⟩⟩
      · have hk2 : k = n := by omega
        have et : ms.take k = ms := List.take_of_length_le (by rw [NL.out]; omega)
        rw [et] at HF HW
        clear et
        go_wp2_with fail
        go_end0
        exact .inl ⟨⟨hn1024, HF.out⟩, rfl, by rw [← List.append_assoc]; exact HW.out⟩

set_option maxHeartbeats 3200000 in
set_option maxRecDepth 100000 in
theorem slist4_ok (A : Option Addr) (n c : Nat) (ms : List Rw) (hC : KRow.C w0 A n ms) (hok : ∀ m ∈ ms, okR m) (hl : xs.length ≤ 140737487000000) (h : Hw w0 w (sinkP p xs * (capP b p * F))) :
    Calls Try.prog 60 #[.pointer (some ⟨p, 0, none⟩), .slice A n c, .func (.func 61) #[] #[.pointer (some ⟨b, 0, none⟩)]] w
      (SinkPost w0 (capP b p * F) p xs (n ≤ 1024 ∧ ∀ m ∈ ms, fitsR m) (encI n ++ ms.flatMap encR)) := by
  have HC := Aside0.mk hC
  have OK := Aside0.mk hok
  have hnl := hC.1
  have H1 := Aside0.mk h
  clear hC h hok
  by_cases hlong : 1024 < n
  · have d1 : decide ((1024 : Int) < n) = true := decide_eq_true (by omega)
    have d2 : decide (1024 < n) = true := decide_eq_true hlong
    clear hnl
    go_enter Try.func60, Try.ntmps60
    go_wp2_with fail
    exact ⟨rfl, .inr ⟨fun hh => by omega, rfl, _, H1.out⟩⟩
  · have d1 : decide ((1024 : Int) < n) = false := decide_eq_false (by omega)
    have d2 : decide (1024 < n) = false := decide_eq_false hlong
    have hi : i64r (n : Int) := by unfold i64r; omega
    have EN := Aside0.mk (encI_len n hi)
    have NL := Aside0.mk hnl
    have hn1024 : n ≤ 1024 := by omega
    clear hnl
    go_enter Try.func60, Try.ntmps60
    go_wp2_with fail
    refine (sint_ok n hi (by omega) H1.out).mono ?_
    rintro e w1 ⟨rfl, g1⟩
    have H2 := Aside0.mk g1
    clear g1 H1 d1 d2
    go_wp2_with fail
    go_loopw [19] (fun i wr => ∃ k : Nat, k ≤ n ∧ i = .int .i64 k ∧ Aside0 (∀ m ∈ ms.take k, fitsR m) ∧ Aside0 (Hw w0 wr (sinkP p (xs ++ encI n ++ (ms.take k).flatMap encR) * (capP b p * F)))) (fun i _ => n - (intOf i).toNat)
    case atStart => exact ⟨0, Nat.zero_le _, rfl, ⟨by intro m hm; simp at hm⟩, ⟨by simpa using H2.out⟩⟩
    case round =>
      obtain ⟨k, hk, rfl, HF, HW⟩ := hrel
      clear H2
      by_cases hlt : k < n
      · obtain ⟨ad, m, rfl, hm, hcl⟩ := elem_at rowC @KRow_cells HC.out HW.out.below k hlt
        have hkk := flat_take encR hm.out
        have FT := Aside0.mk hkk
        have TK := Aside0.mk (take_snoc_of hm.out)
        have LB := Aside0.mk (show (xs ++ encI n ++ (ms.take k).flatMap encR).length ≤ 140737487900000 by
          have h1 := flat_len encR 440 (ms.take k) (fun m hm => encR_len m (OK.out m (List.mem_of_mem_take hm)) (HF.out m hm))
          rw [List.length_take] at h1
          simp only [List.length_append]
          have := EN.out
          omega)
        have hmo := OK.out m (List.mem_of_getElem? hm.out)
        have MO := Aside0.mk hmo
        have HMm := hm
        have k0 : wr.cell? (ad.add (k * 5 + 0)) = _ := hcl 0 _ rfl
        have k1 : wr.cell? (ad.add (k * 5 + 1)) = _ := hcl 1 _ rfl
        have k2 : wr.cell? (ad.add (k * 5 + 2)) = _ := hcl 2 _ rfl
        have k3 : wr.cell? (ad.add (k * 5 + 3)) = _ := hcl 3 _ rfl
        have k4 : wr.cell? (ad.add (k * 5 + 4)) = _ := hcl 4 _ rfl
        rw [add_field _ _ _ (by decide)] at k1
        rw [add_field _ _ _ (by decide)] at k2
        rw [add_field _ _ _ (by decide)] at k3
        rw [add_field _ _ _ (by decide)] at k4
        have k0' : wr.cell? (ad.add (k * 5)) = _ := k0
        clear k0 hcl hkk hm hmo
        have HT := Aside0.mk (HW.out.alloc (.cells #[.string m.1.1, .string m.1.2.1, .string m.1.2.2, .int .i64 m.2.1, .int .i64 m.2.2] 93))
        have t0 := HT.out.cellAt wr.heap.size 0 (v := .string m.1.1) rfl
        have t1 := HT.out.cellAt wr.heap.size 1 (v := .string m.1.2.1) rfl
        have t2 := HT.out.cellAt wr.heap.size 2 (v := .string m.1.2.2) rfl
        have t3 := HT.out.cellAt wr.heap.size 3 (v := .int .i64 m.2.1) rfl
        have t4 := HT.out.cellAt wr.heap.size 4 (v := .int .i64 m.2.2) rfl
        have HT2 := Aside0.mk (HT.out.as (Q := sinkP p (xs ++ encI n ++ (ms.take k).flatMap encR) * (capP b p * (blk wr.heap.size (.cells #[.string m.1.1, .string m.1.2.1, .string m.1.2.2, .int .i64 m.2.1, .int .i64 m.2.2] 93) * F))) (by ac_rfl))
        clear HT HW
        go_wp2_with fail
        refine (s4_one m MO.out (by have := LB.out; omega) HT2.out).mono ?_
        rintro e w4 (⟨hf, rfl, g4⟩ | ⟨hf, rfl, ys, g4⟩)
        · have HF2 := Aside0.mk (show ∀ x ∈ ms.take (k + 1), fitsR x by
            rw [TK.out]
            intro x hx
            rcases List.mem_append.1 hx with hx | hx
            · exact HF.out x hx
            · have hx : x = m := by simpa using hx
              rw [hx]; exact hf)
          have H4 := Aside0.mk (g4.as (Q := sinkP p (xs ++ encI n ++ (ms.take k).flatMap encR ++ encR m) * (capP b p * F) * blk wr.heap.size (.cells #[.string m.1.1, .string m.1.2.1, .string m.1.2.2, .int .i64 m.2.1, .int .i64 m.2.2] 93)) (by ac_rfl)).left
          clear g4 hf HF t0 t1 t2 t3 t4 k1 k2 k3 k4 k0'
          go_wp2_with fail
          go_roundw
          case rel => exact ⟨k + 1, by omega, by go_num, HF2, ⟨by rw [FT.out, ← List.append_assoc]; exact H4.out⟩⟩
          case measure => simp [intOf]; omega
        · exact ⟨rfl, .inr ⟨fun hh => hf (hh.2 m (List.mem_of_getElem? HMm.out)), rfl, ys, (g4.as (Q := sinkP p ys * (capP b p * F) * blk wr.heap.size (.cells #[.string m.1.1, .string m.1.2.1, .string m.1.2.2, .int .i64 m.2.1, .int .i64 m.2.2] 93)) (by ac_rfl)).left⟩⟩
      · have hk2 : k = n := by omega
        have et : ms.take k = ms := List.take_of_length_le (by rw [NL.out]; omega)
        rw [et] at HF HW
        clear et
        go_wp2_with fail
        go_end0
        exact .inl ⟨⟨hn1024, HF.out⟩, rfl, by rw [← List.append_assoc]; exact HW.out⟩
set_option maxHeartbeats 3200000 in
set_option maxRecDepth 100000 in
theorem slist1_ok (A : Option Addr) (n c : Nat) (ms : List Int) (hC : (Kd.int .i64).C w0 A n ms) (hok : ∀ m ∈ ms, i64r m) (hl : xs.length ≤ 140737487000000) (h : Hw w0 w (sinkP p xs * (capP b p * F))) :
    Calls Try.prog 53 #[.pointer (some ⟨p, 0, none⟩), .slice A n c, .func (.func 54) #[] #[.pointer (some ⟨b, 0, none⟩)]] w
      (SinkPost w0 (capP b p * F) p xs (n ≤ 1024) (encI n ++ ms.flatMap encI)) := by
  have HC := Aside0.mk hC
  have OK := Aside0.mk hok
  have hnl := hC.1
  have H1 := Aside0.mk h
  clear hC h hok
  by_cases hlong : 1024 < n
  · have d1 : decide ((1024 : Int) < n) = true := decide_eq_true (by omega)
    have d2 : decide (1024 < n) = true := decide_eq_true hlong
    clear hnl
    go_enter Try.func53, Try.ntmps53
    go_wp2_with fail
    exact ⟨rfl, .inr ⟨fun hh => by omega, rfl, _, H1.out⟩⟩
  · have d1 : decide ((1024 : Int) < n) = false := decide_eq_false (by omega)
    have d2 : decide (1024 < n) = false := decide_eq_false hlong
    have hi : i64r (n : Int) := by unfold i64r; omega
    have EN := Aside0.mk (encI_len n hi)
    have NL := Aside0.mk hnl
    have hn1024 : n ≤ 1024 := by omega
    clear hnl
    go_enter Try.func53, Try.ntmps53
    go_wp2_with fail
    refine (sint_ok n hi (by omega) H1.out).mono ?_
    rintro e w1 ⟨rfl, g1⟩
    have H2 := Aside0.mk g1
    clear g1 H1 d1 d2
    go_wp2_with fail
    go_loopw [19] (fun i wr => ∃ k : Nat, k ≤ n ∧ i = .int .i64 k ∧ Aside0 (Hw w0 wr (sinkP p (xs ++ encI n ++ (ms.take k).flatMap encI) * (capP b p * F)))) (fun i _ => n - (intOf i).toNat)
    case atStart => exact ⟨0, Nat.zero_le _, rfl, ⟨by simpa using H2.out⟩⟩
    case round =>
      obtain ⟨k, hk, rfl, HW⟩ := hrel
      clear H2
      by_cases hlt : k < n
      · obtain ⟨ad, m, rfl, hcell, hm⟩ := C_scalar_at (enc := Value.int .i64) (h1 := fun _ => rfl) (Kd.C_below HC.out HW.out.below) k hlt
        have FT := Aside0.mk (flat_take encI hm.out)
        have LB := Aside0.mk (show (xs ++ encI n ++ (ms.take k).flatMap encI).length ≤ 140737487900000 by
          have h1 := flat_len encI 10 (ms.take k) (fun m hm => (encI_len m (OK.out m (List.mem_of_mem_take hm))).2)
          rw [List.length_take] at h1
          simp only [List.length_append]
          have := EN.out
          omega)
        have MO := Aside0.mk (OK.out m (List.mem_of_getElem? hm.out))
        clear hm
        go_wp2_with fail
        refine (s1_one m MO.out (by have := LB.out; omega) HW.out).mono ?_
        rintro e w4 ⟨rfl, g4⟩
        have H4 := Aside0.mk g4
        clear g4 HW hcell
        go_wp2_with fail
        go_roundw
        case rel => exact ⟨k + 1, by omega, by go_num, ⟨by rw [FT.out, ← List.append_assoc]; exact H4.out⟩⟩
        case measure => simp [intOf]; omega
      · have hk2 : k = n := by omega
        have et : ms.take k = ms := List.take_of_length_le (by rw [NL.out]; omega)
        rw [et] at HW
        clear et
        go_wp2_with fail
        go_end0
        exact .inl ⟨hn1024, rfl, by rw [← List.append_assoc]; exact HW.out⟩
end
end Go.Proofs.Ytloiclalcepbeaa
