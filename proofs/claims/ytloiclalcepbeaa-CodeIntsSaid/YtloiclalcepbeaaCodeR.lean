/- The source: numbers, counts, texts, flags, tuples read. -/
import Derived.Test.YtloiclalcepbeaaCodeG
import Derived.Test.YtloiclalcepbeaaCodeM
import Derived.WalkSmall
set_option linter.unusedVariables false
set_option linter.unusedSimpArgs false
namespace Go.Proofs.Ytloiclalcepbeaa
open Go.RowKit Go.Proofs.YtloiclalcepbeaaW.PrintWords Go.Proofs.YtloiclalcepbeaaW.PrintLast
/-- What is read of some bytes: the thing and what is left, or the error. -/
abbrev Rd (α : Type) := Except Int (α × List Int)
def rInt (xs : List Int) : Rd Int := if (getI xs).2.2 = 0 then .ok ((getI xs).1, xs.drop (getI xs).2.1.toNat) else .error (getI xs).2.2
def rCount (most : Int) (xs : List Int) : Rd Nat := match rInt xs with
  | .error e => .error e
  | .ok (n, ys) => if n < 0 ∨ most < n then .error 2 else .ok (n.toNat, ys)
def rTake (n : Nat) (xs : List Int) : Rd (List Int) := if xs.length < n then .error 10 else .ok (xs.take n, xs.drop n)
def rText (xs : List Int) : Rd ByteArray := match rCount 128 xs with
  | .error e => .error e
  | .ok (n, ys) => match rTake n ys with
    | .error e => .error e
    | .ok (t, zs) => .ok (strOfNums t, zs)
def rFlag (xs : List Int) : Rd Bool := match xs with
  | [] => .error 10
  | x :: r => if 1 < x then .error 22 else .ok (x == 1, r)
/-- A source at block p, with these bytes left of old memory. -/
def srcP (w0 : World) (p : Nat) (xs : List Int) : HP := fun h => ∃ (A : Option Addr) (n c : Nat), (Kd.int .u8).C w0 A n xs ∧ n ≤ c ∧ bytes xs ∧ blk p (.cells #[.slice A n c] 95) h
def ReadPost {α : Type} (w0 : World) (F : HP) (p : Nat) (r : Rd α) (V : α → Value) (e : Ending) (w' : World) : Prop :=
  (∃ a ys, r = .ok (a, ys) ∧ e = .returned (V a) ∧ Hw w0 w' (srcP w0 p ys * F)) ∨ (∃ c ys, r = .error c ∧ c ≠ 0 ∧ e = thrown c ∧ Hw w0 w' (srcP w0 p ys * F))
section
variable {w0 w : World} {F : HP} {p : Nat} {xs : List Int}
theorem src_open (h : Hw w0 w (srcP w0 p xs * F)) : ∃ (A : Option Addr) (n c : Nat), (Kd.int .u8).C w0 A n xs ∧ n ≤ c ∧ bytes xs ∧ Hw w0 w (blk p (.cells #[.slice A n c] 95) * F) := by
  obtain ⟨hb, x, ⟨h1, h2, hd, hj, ⟨A, n, c, hC, hn, hbx, hp⟩, hq⟩, hw⟩ := h
  exact ⟨A, n, c, hC, hn, hbx, hb, x, ⟨h1, h2, hd, hj, hp, hq⟩, hw⟩
theorem src_mk {A : Option Addr} {n c : Nat} (hC : (Kd.int .u8).C w0 A n xs) (hn : n ≤ c) (hbx : bytes xs) (h : Hw w0 w (blk p (.cells #[.slice A n c] 95) * F)) : Hw w0 w (srcP w0 p xs * F) := by
  obtain ⟨hb, x, ⟨h1, h2, hd, hj, hp, hq⟩, hw⟩ := h
  exact ⟨hb, x, ⟨h1, h2, hd, hj, ⟨A, n, c, hC, hn, hbx, hp⟩, hq⟩, hw⟩
theorem bytes_drop {l : List Int} (h : bytes l) (k : Nat) : bytes (l.drop k) := fun x hx => h x (List.mem_of_mem_drop hx)
theorem bytes_take {l : List Int} (h : bytes l) (k : Nat) : bytes (l.take k) := fun x hx => h x (List.mem_of_mem_take hx)
theorem gget_size : ∀ (l : List Int) (i u : Nat), (gget i u l).2.2 = 0 → (i : Int) + 1 ≤ (gget i u l).2.1 ∧ (gget i u l).2.1 ≤ i + l.length
  | [], i, u, h => by simp [gget] at h
  | x :: l, i, u, h => by
    unfold gget at h ⊢
    by_cases c1 : i = 9 ∧ 1 < x
    · rw [if_pos c1] at h; simp at h
    · rw [if_neg c1] at h ⊢
      by_cases c2 : x < 128
      · rw [if_pos c2] at h ⊢
        by_cases c3 : x = 0 ∧ 0 < i
        · rw [if_pos c3] at h; simp at h
        · rw [if_neg c3]
          simp only [List.length_cons]
          omega
      · rw [if_neg c2] at h ⊢
        have := gget_size l (i + 1) _ h
        simp only [List.length_cons]
        omega
theorem gget_err : ∀ (l : List Int) (i u : Nat), (gget i u l).2.2 = 0 ∨ (gget i u l).2.2 = 10 ∨ (gget i u l).2.2 = 20
  | [], i, u => .inr (.inl rfl)
  | x :: l, i, u => by
    unfold gget
    repeat' split
    all_goals first | exact .inl rfl | exact .inr (.inr rfl) | exact gget_err l _ _
set_option maxHeartbeats 1600000 in
set_option maxRecDepth 100000 in
theorem rint_ok (h : Hw w0 w (srcP w0 p xs * F)) :
    Calls Try.prog 62 #[.pointer (some ⟨p, 0, none⟩)] w (ReadPost w0 F p (rInt xs) (Value.int .i64)) := by
  obtain ⟨A, n, c, hC, hn, hbx, h⟩ := src_open h
  have H := Aside0.mk h
  have k0 := h.cell (i := 0) (v := .slice A n c) rfl
  have f0 := h.unfrozen 0
  have G := Aside0.mk (getint_ok A n c xs w (Kd.C_below hC h.below) hbx)
  have NL := Aside0.mk hC.1
  have HC := Aside0.mk hC
  have HB := Aside0.mk hbx
  obtain ⟨⟨m, sz, er⟩, hg⟩ : ∃ r, r = getI xs := ⟨_, rfl⟩
  have hsz := gget_size xs 0 0
  have her := gget_err xs 0 0
  have hri : rInt xs = if er = 0 then .ok (m, xs.drop sz.toNat) else .error er := by unfold rInt; rw [← hg]
  rw [show gget 0 0 xs = (m, sz, er) from hg.symm] at hsz her
  rw [← hg] at G
  simp only at hsz her
  rw [hC.1] at hsz
  have RI := Aside0.mk hri
  clear h hC hbx hg hri
  by_cases he : er = 0
  · obtain ⟨s1, s2⟩ := hsz he
    subst he
    obtain ⟨inf, hinf, hiz0, hiz1, hiz2⟩ := info_parts Try.infoU8
    obtain ⟨A', hcut, hC2⟩ := sl_drop (Kd.int .u8) 35 5 Try.underlying35 hinf hiz1 A n c sz sz.toNat (by omega) (by omega) hn
    have D := Aside0.mk (hC2 w0 xs HC.out)
    have H2 := Aside0.mk (H.out.set 0 (.slice A' (n - sz.toNat) (c - sz.toNat)))
    clear hC2 hinf hiz0 hiz1 hiz2 hsz her
    go_enter Try.func62, Try.ntmps62
    go_wp2_with fail
    refine G.out.mono ?_
    rintro e w' ⟨rfl, rfl⟩
    go_wp2_with fail
    go_ret
    exact .inl ⟨m, _, RI.out.trans (if_pos trivial), rfl, src_mk D.out (by omega) (bytes_drop HB.out _) H2.out⟩
  · have q : (er != 0) = true := by simpa using he
    have RE := Aside0.mk (RI.out.trans (if_neg he))
    clear hsz her
    go_enter Try.func62, Try.ntmps62
    go_wp2_with fail
    refine G.out.mono ?_
    rintro e w' ⟨rfl, rfl⟩
    go_wp2_with fail
    exact ⟨rfl, .inr ⟨er, xs, RE.out, he, rfl, src_mk HC.out hn HB.out H.out⟩⟩
set_option maxHeartbeats 800000 in
theorem rcount_ok (most : Int) (hm : 0 ≤ most) (h : Hw w0 w (srcP w0 p xs * F)) :
    Calls Try.prog 78 #[.pointer (some ⟨p, 0, none⟩), .int .i64 most] w (ReadPost w0 F p (rCount most xs) (fun n : Nat => Value.int .i64 n)) := by
  have R := Aside0.mk (rint_ok h)
  have RC := Aside0.mk (show rCount most xs = match rInt xs with
    | .error e => .error e
    | .ok (n, ys) => if n < 0 ∨ most < n then .error 2 else .ok (n.toNat, ys) from rfl)
  clear h
  go_enter Try.func78, Try.ntmps78
  go_wp2_with fail
  refine R.out.mono ?_
  rintro e w' (⟨n, ys, hr, rfl, g⟩ | ⟨c, ys, hr, hc, rfl, g⟩)
  · have RC2 := RC.out
    rw [hr] at RC2
    simp only at RC2
    have G := Aside0.mk g
    clear g hr RC
    by_cases hb : n < 0 ∨ most < n
    · rw [if_pos hb] at RC2
      have RE := Aside0.mk RC2
      clear RC2
      have hcase : n < 0 ∨ (¬ n < 0 ∧ most < n) := by omega
      clear hb
      rcases hcase with d1 | ⟨d1, d2⟩
      all_goals
        go_wp2_with fail
        exact ⟨rfl, .inr ⟨2, _, RE.out, by decide, rfl, G.out⟩⟩
    · rw [if_neg hb] at RC2
      have RE := Aside0.mk RC2
      obtain ⟨m, rfl⟩ : ∃ m : Nat, n = m := ⟨n.toNat, by omega⟩
      have d1 : ¬ (m : Int) < 0 := by omega
      have d2 : ¬ most < (m : Int) := by omega
      clear RC2 hb
      go_wp2_with fail
      go_ret
      exact .inl ⟨m, ys, by rw [RE.out, Int.toNat_natCast], rfl, G.out⟩
  · have RE := Aside0.mk (show rCount most xs = .error c by rw [RC.out, hr])
    exact ⟨rfl, .inr ⟨c, ys, RE.out, hc, rfl, g⟩⟩
set_option maxHeartbeats 800000 in
theorem rtake_ok (k : Nat) (h : Hw w0 w (srcP w0 p xs * F)) :
    Calls Try.prog 77 #[.pointer (some ⟨p, 0, none⟩), .int .i64 k] w fun e w' =>
      (k ≤ xs.length ∧ ∃ (A : Option Addr) (c : Nat), e = .returned (.slice A k c) ∧ (Kd.int .u8).C w0 A k (xs.take k) ∧ Hw w0 w' (srcP w0 p (xs.drop k) * F)) ∨ (xs.length < k ∧ e = thrown 10 ∧ Hw w0 w' (srcP w0 p xs * F)) := by
  obtain ⟨A, n, c, hC, hn, hbx, h⟩ := src_open h
  have H := Aside0.mk h
  have k0 := h.cell (i := 0) (v := .slice A n c) rfl
  have f0 := h.unfrozen 0
  have NL := Aside0.mk hC.1
  have hmm : n ≤ 9223372036854775807 := hC.2.1
  have HC := Aside0.mk hC
  have HB := Aside0.mk hbx
  clear h hC hbx
  by_cases hk : n < k
  · have d1 : decide ((n : Int) < k) = true := decide_eq_true (by omega)
    have d2 : decide (n < k) = true := decide_eq_true hk
    go_enter Try.func77, Try.ntmps77
    go_wp2_with fail
    exact ⟨rfl, .inr ⟨by rw [NL.out]; exact hk, rfl, src_mk HC.out hn HB.out H.out⟩⟩
  · have d1 : decide ((n : Int) < k) = false := decide_eq_false (by omega)
    have d2 : decide (n < k) = false := decide_eq_false hk
    obtain ⟨inf, hinf, hiz0, hiz1, hiz2⟩ := info_parts Try.infoU8
    obtain ⟨hcut1, hC1⟩ := sl_take (Kd.int .u8) 35 5 Try.underlying35 hinf A n c (k : Int) k rfl (by omega) hn
    obtain ⟨A', hcut, hC2⟩ := sl_drop (Kd.int .u8) 35 5 Try.underlying35 hinf hiz1 A n c (k : Int) k rfl (by omega) hn
    have T := Aside0.mk (hC1 w0 xs HC.out)
    have D := Aside0.mk (hC2 w0 xs HC.out)
    have H2 := Aside0.mk (H.out.set 0 (.slice A' (n - k) (c - k)))
    clear hC1 hC2 hinf hiz0 hiz1 hiz2
    go_enter Try.func77, Try.ntmps77
    go_wp2_with fail
    go_ret
    exact .inl ⟨by rw [NL.out]; omega, A, c, rfl, T.out, src_mk D.out (by omega) (bytes_drop HB.out _) H2.out⟩
set_option maxHeartbeats 800000 in
theorem rtext_ok (h : Hw w0 w (srcP w0 p xs * F)) :
    Calls Try.prog 79 #[.pointer (some ⟨p, 0, none⟩)] w (ReadPost w0 F p (rText xs) Value.string) := by
  have R := Aside0.mk (rcount_ok 128 (by decide) h)
  have RC := Aside0.mk (show rText xs = match rCount 128 xs with
    | .error e => .error e
    | .ok (n, ys) => match rTake n ys with
      | .error e => .error e
      | .ok (t, zs) => .ok (strOfNums t, zs) from rfl)
  clear h
  go_enter Try.func79, Try.ntmps79
  go_wp2_with fail
  refine R.out.mono ?_
  rintro e w' (⟨n, ys, hr, rfl, g⟩ | ⟨c, ys, hr, hc, rfl, g⟩)
  · have RC2 := RC.out
    rw [hr] at RC2
    simp only at RC2
    have RX := Aside0.mk RC2
    have R2 := Aside0.mk (rtake_ok n g)
    clear g hr RC RC2
    go_wp2_with fail
    refine R2.out.mono ?_
    rintro e w2 (⟨hl, A, c, rfl, hC, g⟩ | ⟨hl, rfl, g⟩)
    · have RE := Aside0.mk (show rText xs = .ok (strOfNums (ys.take n), ys.drop n) by rw [RX.out]; unfold rTake; rw [if_neg (by omega)])
      have hst := Kd.C_string (P := Try.prog) (c := c) Try.underlying35 Try.underlying5 Try.underlying9 (Kd.C_below hC g.below)
      have G := Aside0.mk g
      clear g hC hl
      go_wp2_with fail
      go_ret
      exact .inl ⟨_, _, RE.out, rfl, G.out⟩
    · have RE := Aside0.mk (show rText xs = .error 10 by rw [RX.out]; unfold rTake; rw [if_pos hl])
      exact ⟨rfl, .inr ⟨10, ys, RE.out, by decide, rfl, g⟩⟩
  · have RE := Aside0.mk (show rText xs = .error c by rw [RC.out, hr])
    exact ⟨rfl, .inr ⟨c, ys, RE.out, hc, rfl, g⟩⟩
set_option maxHeartbeats 800000 in
theorem rflag_ok (h : Hw w0 w (srcP w0 p xs * F)) :
    Calls Try.prog 63 #[.pointer (some ⟨p, 0, none⟩)] w (ReadPost w0 F p (rFlag xs) Value.bool) := by
  obtain ⟨_, _, _, _, _, hbx, _⟩ := src_open h
  have HB := Aside0.mk hbx
  have R := Aside0.mk (rtake_ok 1 h)
  clear h hbx
  go_enter Try.func63, Try.ntmps63
  go_wp2_with fail
  refine R.out.mono ?_
  rintro e w' (⟨hl, A, c, rfl, hC, g⟩ | ⟨hl, rfl, g⟩)
  · obtain ⟨x, r, rfl⟩ : ∃ x r, xs = x :: r := by
      cases xs with
      | nil => simp at hl
      | cons x r => exact ⟨x, r, rfl⟩
    obtain ⟨ad, y, rfl, hcell, hy⟩ := C_scalar_at (enc := Value.int .u8) (h1 := fun _ => rfl) (Kd.C_below hC g.below) 0 (by decide)
    obtain rfl : x = y := by simpa using hy.out
    have hx := HB.out x (by simp)
    have hc0 : w'.cell? ad = some (.int .u8 x) := by rw [← Addr.add_zero' ad]; exact hcell
    have G := Aside0.mk g
    have hx0 := hx.1
    have hx1 := hx.2
    clear g hC hl hy hx R
    by_cases hb : 1 < x
    · have RE := Aside0.mk (show rFlag (x :: r) = .error 22 from if_pos hb)
      go_wp2_with fail
      exact ⟨rfl, .inr ⟨22, _, RE.out, by decide, rfl, G.out⟩⟩
    · have RE := Aside0.mk (show rFlag (x :: r) = .ok (x == 1, r) from if_neg hb)
      obtain ⟨b, hbb⟩ : ∃ b, b = (x == 1) := ⟨_, rfl⟩
      rw [← hbb] at RE
      have hb2 := hbb.symm
      clear hbb
      go_wp2_with fail
      go_ret
      exact .inl ⟨b, r, RE.out, rfl, G.out⟩
  · have RE := Aside0.mk (show rFlag xs = .error 10 by
      cases xs with
      | nil => rfl
      | cons x r => simp at hl)
    exact ⟨rfl, .inr ⟨10, xs, RE.out, by decide, rfl, g⟩⟩
end
end Go.Proofs.Ytloiclalcepbeaa
