/- The source: numbers, counts, texts, flags, tuples read. -/
import Derived.Test.YtckdkbjobipniaaCA
import Derived.WalkSmall
import Derived.Test.YtckdkbjobipniaaBB
set_option linter.unusedVariables false
set_option linter.unusedSimpArgs false
namespace Go.Proofs.Ytckdkbjobipniaa
open Go.RowKit Go.Proofs.YtckdkbjobipniaaW.PrintWords Go.Proofs.YtckdkbjobipniaaW.PrintLast
/-- What is read of some bytes: the thing and what is left, or the error. -/
abbrev Rd (α : Type) := Except Int (α × List Int)
def rInt (xs : List Int) : Rd Int := if (getI xs).2.2 = 0 then .ok ((getI xs).1, xs.drop (getI xs).2.1.toNat) else .error (getI xs).2.2
def rCount (most : Int) (xs : List Int) : Rd Nat := match rInt xs with
  | .error e => .error e
  | .ok (n, ys) => if n < 0 ∨ most < n then .error 2 else .ok (n.toNat, ys)
def rTake (n : Nat) (xs : List Int) : Rd (List Int) := if xs.length < n then .error 10 else .ok (xs.take n, xs.drop n)
def rText (xs : List Int) : Rd ByteArray := match rCount 128 xs with
  | .error e => .error e
  | .ok (n, ys) => match rTake n ys with
    | .error e => .error e
    | .ok (t, zs) => .ok (strOfNums t, zs)
def rFlag (xs : List Int) : Rd Bool := match xs with
  | [] => .error 10
  | x :: r => if 1 < x then .error 22 else .ok (x == 1, r)
/-- A source at block p, with these bytes left of old memory. -/
def srcP (w0 : World) (p : Nat) (xs : List Int) : HP := fun h => ∃ (A : Option Addr) (n c : Nat), (Kd.int .u8).C w0 A n xs ∧ n ≤ c ∧ bytes xs ∧ blk p (.cells #[.slice A n c] 147) h
def ReadPost {α : Type} (w0 : World) (F : HP) (p : Nat) (r : Rd α) (V : α → Value) (e : Ending) (w' : World) : Prop :=
  (∃ a ys, r = .ok (a, ys) ∧ e = .returned (V a) ∧ Hw w0 w' (srcP w0 p ys * F)) ∨ (∃ c ys, r = .error c ∧ c ≠ 0 ∧ e = thrown c ∧ Hw w0 w' (srcP w0 p ys * F))
section
variable {w0 w : World} {F : HP} {p : Nat} {xs : List Int}
theorem src_open (h : Hw w0 w (srcP w0 p xs * F)) : ∃ (A : Option Addr) (n c : Nat), (Kd.int .u8).C w0 A n xs ∧ n ≤ c ∧ bytes xs ∧ Hw w0 w (blk p (.cells #[.slice A n c] 147) * F) := by
  obtain ⟨hb, x, ⟨h1, h2, hd, hj, ⟨A, n, c, hC, hn, hbx, hp⟩, hq⟩, hw⟩ := h
  exact ⟨A, n, c, hC, hn, hbx, hb, x, ⟨h1, h2, hd, hj, hp, hq⟩, hw⟩
theorem src_mk {A : Option Addr} {n c : Nat} (hC : (Kd.int .u8).C w0 A n xs) (hn : n ≤ c) (hbx : bytes xs) (h : Hw w0 w (blk p (.cells #[.slice A n c] 147) * F)) : Hw w0 w (srcP w0 p xs * F) := by
  obtain ⟨hb, x, ⟨h1, h2, hd, hj, hp, hq⟩, hw⟩ := h
  exact ⟨hb, x, ⟨h1, h2, hd, hj, ⟨A, n, c, hC, hn, hbx, hp⟩, hq⟩, hw⟩
theorem bytes_drop {l : List Int} (h : bytes l) (k : Nat) : bytes (l.drop k) := fun x hx => h x (List.mem_of_mem_drop hx)
theorem gget_size : ∀ (l : List Int) (i u : Nat), (gget i u l).2.2 = 0 → (i : Int) + 1 ≤ (gget i u l).2.1 ∧ (gget i u l).2.1 ≤ i + l.length
  | [], i, u, h => by simp [gget] at h
  | x :: l, i, u, h => by
    unfold gget at h ⊢
    by_cases c1 : i = 9 ∧ 1 < x
    · rw [if_pos c1] at h; simp at h
    · rw [if_neg c1] at h ⊢
      by_cases c2 : x < 128
      · rw [if_pos c2] at h ⊢
        by_cases c3 : x = 0 ∧ 0 < i
        · rw [if_pos c3] at h; simp at h
        · rw [if_neg c3]
          simp only [List.length_cons]
          omega
      · rw [if_neg c2] at h ⊢
        have := gget_size l (i + 1) _ h
        simp only [List.length_cons]
        omega
theorem gget_err : ∀ (l : List Int) (i u : Nat), (gget i u l).2.2 = 0 ∨ (gget i u l).2.2 = 10 ∨ (gget i u l).2.2 = 20
  | [], i, u => .inr (.inl rfl)
  | x :: l, i, u => by
    unfold gget
    repeat' split
    all_goals first | exact .inl rfl | exact .inr (.inr rfl) | exact gget_err l _ _
set_option maxHeartbeats 1600000 in
set_option maxRecDepth 100000 in
theorem rint_ok (h : Hw w0 w (srcP w0 p xs * F)) :
    Calls Try.prog 111 #[.pointer (some ⟨p, 0, none⟩)] w (ReadPost w0 F p (rInt xs) (Value.int .i64)) := by
  obtain ⟨A, n, c, hC, hn, hbx, h⟩ := src_open h
  have H := Aside0.mk h
  have k0 := h.cell (i := 0) (v := .slice A n c) rfl
  have f0 := h.unfrozen 0
  have G := Aside0.mk (getint_ok A n c xs w (Kd.C_below hC h.below) hbx)
  have NL := Aside0.mk hC.1
  have HC := Aside0.mk hC
  have HB := Aside0.mk hbx
  obtain ⟨⟨m, sz, er⟩, hg⟩ : ∃ r, r = getI xs := ⟨_, rfl⟩
  have hsz := gget_size xs 0 0
  have her := gget_err xs 0 0
  have hri : rInt xs = if er = 0 then .ok (m, xs.drop sz.toNat) else .error er := by unfold rInt; rw [← hg]
  rw [show gget 0 0 xs = (m, sz, er) from hg.symm] at hsz her
  rw [← hg] at G
  simp only at hsz her
  rw [hC.1] at hsz
  have RI := Aside0.mk hri
  clear h hC hbx hg hri
  by_cases he : er = 0
  · obtain ⟨s1, s2⟩ := hsz he
    subst he
    obtain ⟨inf, hinf, hiz0, hiz1, hiz2⟩ := info_parts Try.infoU8
    obtain ⟨A', hcut, hC2⟩ := sl_drop (Kd.int .u8) 28 5 Try.underlying28 hinf hiz1 A n c sz sz.toNat (by omega) (by omega) hn
    have D := Aside0.mk (hC2 w0 xs HC.out)
    have H2 := Aside0.mk (H.out.set 0 (.slice A' (n - sz.toNat) (c - sz.toNat)))
    clear hC2 hinf hiz0 hiz1 hiz2 hsz her
    go_enter Try.func111, Try.ntmps111
    go_wp2_with fail
    refine G.out.mono ?_
    rintro e w' ⟨rfl, rfl⟩
    go_wp2_with fail
    go_ret
    exact .inl ⟨m, _, RI.out.trans (if_pos trivial), rfl, src_mk D.out (by omega) (bytes_drop HB.out _) H2.out⟩
  · have q : (er != 0) = true := by simpa using he
    have RE := Aside0.mk (RI.out.trans (if_neg he))
    clear hsz her
    go_enter Try.func111, Try.ntmps111
    go_wp2_with fail
    refine G.out.mono ?_
    rintro e w' ⟨rfl, rfl⟩
    go_wp2_with fail
    exact ⟨rfl, .inr ⟨er, xs, RE.out, he, rfl, src_mk HC.out hn HB.out H.out⟩⟩
set_option maxHeartbeats 800000 in
theorem rcount_ok (most : Int) (hm : 0 ≤ most) (h : Hw w0 w (srcP w0 p xs * F)) :
    Calls Try.prog 135 #[.pointer (some ⟨p, 0, none⟩), .int .i64 most] w (ReadPost w0 F p (rCount most xs) (fun n : Nat => Value.int .i64 n)) := by
  have R := Aside0.mk (rint_ok h)
  have RC := Aside0.mk (show rCount most xs = match rInt xs with
    | .error e => .error e
    | .ok (n, ys) => if n < 0 ∨ most < n then .error 2 else .ok (n.toNat, ys) from rfl)
  clear h
  go_enter Try.func135, Try.ntmps135
  go_wp2_with fail
  refine R.out.mono ?_
  rintro e w' (⟨n, ys, hr, rfl, g⟩ | ⟨c, ys, hr, hc, rfl, g⟩)
  · have RC2 := RC.out
    rw [hr] at RC2
    simp only at RC2
    have G := Aside0.mk g
    clear g hr RC
    by_cases hb : n < 0 ∨ most < n
    · rw [if_pos hb] at RC2
      have RE := Aside0.mk RC2
      clear RC2
      have hcase : n < 0 ∨ (¬ n < 0 ∧ most < n) := by omega
      clear hb
      rcases hcase with d1 | ⟨d1, d2⟩
      all_goals
        go_wp2_with fail
        exact ⟨rfl, .inr ⟨2, _, RE.out, by decide, rfl, G.out⟩⟩
    · rw [if_neg hb] at RC2
      have RE := Aside0.mk RC2
      obtain ⟨m, rfl⟩ : ∃ m : Nat, n = m := ⟨n.toNat, by omega⟩
      have d1 : ¬ (m : Int) < 0 := by omega
      have d2 : ¬ most < (m : Int) := by omega
      clear RC2 hb
      go_wp2_with fail
      go_ret
      exact .inl ⟨m, ys, by rw [RE.out, Int.toNat_natCast], rfl, G.out⟩
  · have RE := Aside0.mk (show rCount most xs = .error c by rw [RC.out, hr])
    exact ⟨rfl, .inr ⟨c, ys, RE.out, hc, rfl, g⟩⟩
set_option maxHeartbeats 800000 in
theorem rtake_ok (k : Nat) (h : Hw w0 w (srcP w0 p xs * F)) :
    Calls Try.prog 134 #[.pointer (some ⟨p, 0, none⟩), .int .i64 k] w fun e w' =>
      (k ≤ xs.length ∧ ∃ (A : Option Addr) (c : Nat), e = .returned (.slice A k c) ∧ (Kd.int .u8).C w0 A k (xs.take k) ∧ Hw w0 w' (srcP w0 p (xs.drop k) * F)) ∨ (xs.length < k ∧ e = thrown 10 ∧ Hw w0 w' (srcP w0 p xs * F)) := by
  obtain ⟨A, n, c, hC, hn, hbx, h⟩ := src_open h
  have H := Aside0.mk h
  have k0 := h.cell (i := 0) (v := .slice A n c) rfl
  have f0 := h.unfrozen 0
  have NL := Aside0.mk hC.1
  have hmm : n ≤ 9223372036854775807 := hC.2.1
  have HC := Aside0.mk hC
  have HB := Aside0.mk hbx
  clear h hC hbx
  by_cases hk : n < k
  · have d1 : decide ((n : Int) < k) = true := decide_eq_true (by omega)
    have d2 : decide (n < k) = true := decide_eq_true hk
    go_enter Try.func134, Try.ntmps134
    go_wp2_with fail
    exact ⟨rfl, .inr ⟨by rw [NL.out]; exact hk, rfl, src_mk HC.out hn HB.out H.out⟩⟩
  · have d1 : decide ((n : Int) < k) = false := decide_eq_false (by omega)
    have d2 : decide (n < k) = false := decide_eq_false hk
    obtain ⟨inf, hinf, hiz0, hiz1, hiz2⟩ := info_parts Try.infoU8
    obtain ⟨hcut1, hC1⟩ := sl_take (Kd.int .u8) 28 5 Try.underlying28 hinf A n c (k : Int) k rfl (by omega) hn
    obtain ⟨A', hcut, hC2⟩ := sl_drop (Kd.int .u8) 28 5 Try.underlying28 hinf hiz1 A n c (k : Int) k rfl (by omega) hn
    have T := Aside0.mk (hC1 w0 xs HC.out)
    have D := Aside0.mk (hC2 w0 xs HC.out)
    have H2 := Aside0.mk (H.out.set 0 (.slice A' (n - k) (c - k)))
    clear hC1 hC2 hinf hiz0 hiz1 hiz2
    go_enter Try.func134, Try.ntmps134
    go_wp2_with fail
    go_ret
    exact .inl ⟨by rw [NL.out]; omega, A, c, rfl, T.out, src_mk D.out (by omega) (bytes_drop HB.out _) H2.out⟩
set_option maxHeartbeats 800000 in
theorem rtext_ok (h : Hw w0 w (srcP w0 p xs * F)) :
    Calls Try.prog 136 #[.pointer (some ⟨p, 0, none⟩)] w (ReadPost w0 F p (rText xs) Value.string) := by
  have R := Aside0.mk (rcount_ok 128 (by decide) h)
  have RC := Aside0.mk (show rText xs = match rCount 128 xs with
    | .error e => .error e
    | .ok (n, ys) => match rTake n ys with
      | .error e => .error e
      | .ok (t, zs) => .ok (strOfNums t, zs) from rfl)
  clear h
  go_enter Try.func136, Try.ntmps136
  go_wp2_with fail
  refine R.out.mono ?_
  rintro e w' (⟨n, ys, hr, rfl, g⟩ | ⟨c, ys, hr, hc, rfl, g⟩)
  · have RC2 := RC.out
    rw [hr] at RC2
    simp only at RC2
    have RX := Aside0.mk RC2
    have R2 := Aside0.mk (rtake_ok n g)
    clear g hr RC RC2
    go_wp2_with fail
    refine R2.out.mono ?_
    rintro e w2 (⟨hl, A, c, rfl, hC, g⟩ | ⟨hl, rfl, g⟩)
    · have RE := Aside0.mk (show rText xs = .ok (strOfNums (ys.take n), ys.drop n) by rw [RX.out]; unfold rTake; rw [if_neg (by omega)])
      have hst := Kd.C_string (P := Try.prog) (c := c) Try.underlying28 Try.underlying5 Try.underlying9 (Kd.C_below hC g.below)
      have G := Aside0.mk g
      clear g hC hl
      go_wp2_with fail
      go_ret
      exact .inl ⟨_, _, RE.out, rfl, G.out⟩
    · have RE := Aside0.mk (show rText xs = .error 10 by rw [RX.out]; unfold rTake; rw [if_pos hl])
      exact ⟨rfl, .inr ⟨10, ys, RE.out, by decide, rfl, g⟩⟩
  · have RE := Aside0.mk (show rText xs = .error c by rw [RC.out, hr])
    exact ⟨rfl, .inr ⟨c, ys, RE.out, hc, rfl, g⟩⟩
set_option maxHeartbeats 800000 in
theorem rflag_ok (h : Hw w0 w (srcP w0 p xs * F)) :
    Calls Try.prog 112 #[.pointer (some ⟨p, 0, none⟩)] w (ReadPost w0 F p (rFlag xs) Value.bool) := by
  obtain ⟨_, _, _, _, _, hbx, _⟩ := src_open h
  have HB := Aside0.mk hbx
  have R := Aside0.mk (rtake_ok 1 h)
  clear h hbx
  go_enter Try.func112, Try.ntmps112
  go_wp2_with fail
  refine R.out.mono ?_
  rintro e w' (⟨hl, A, c, rfl, hC, g⟩ | ⟨hl, rfl, g⟩)
  · obtain ⟨x, r, rfl⟩ : ∃ x r, xs = x :: r := by
      cases xs with
      | nil => simp at hl
      | cons x r => exact ⟨x, r, rfl⟩
    obtain ⟨ad, y, rfl, hcell, hy⟩ := C_scalar_at (enc := Value.int .u8) (h1 := fun _ => rfl) (Kd.C_below hC g.below) 0 (by decide)
    obtain rfl : x = y := by simpa using hy.out
    have hx := HB.out x (by simp)
    have hc0 : w'.cell? ad = some (.int .u8 x) := by rw [← Addr.add_zero' ad]; exact hcell
    have G := Aside0.mk g
    have hx0 := hx.1
    have hx1 := hx.2
    clear g hC hl hy hx R
    by_cases hb : 1 < x
    · have RE := Aside0.mk (show rFlag (x :: r) = .error 22 from if_pos hb)
      go_wp2_with fail
      exact ⟨rfl, .inr ⟨22, _, RE.out, by decide, rfl, G.out⟩⟩
    · have RE := Aside0.mk (show rFlag (x :: r) = .ok (x == 1, r) from if_neg hb)
      obtain ⟨b, hbb⟩ : ∃ b, b = (x == 1) := ⟨_, rfl⟩
      rw [← hbb] at RE
      have hb2 := hbb.symm
      clear hbb
      go_wp2_with fail
      go_ret
      exact .inl ⟨b, r, RE.out, rfl, G.out⟩
  · have RE := Aside0.mk (show rFlag xs = .error 10 by
      cases xs with
      | nil => rfl
      | cons x r => simp at hl)
    exact ⟨rfl, .inr ⟨10, xs, RE.out, by decide, rfl, g⟩⟩
end
end Go.Proofs.Ytckdkbjobipniaa

/- The source: tuples and the closures that read one thing. -/
set_option linter.unusedVariables false
set_option linter.unusedSimpArgs false
namespace Go.Proofs.Ytckdkbjobipniaa
open Go.RowKit Go.Proofs.YtckdkbjobipniaaW.PrintWords Go.Proofs.YtckdkbjobipniaaW.PrintLast
/-- A call in a region that draws, which may give up. -/
theorem goesP_ {P : Program} {ops : Array Oper} {Q : Exit → Act → World → Prop} {oi : Oper} {N : Option Tmp} {a : Act} {w : World} {K : Act → World → Prop} {f : FuncId} {fn : Func} {as' : Array Operand} {ts : Array TypeId} (hf : P.funcs[f]? = some fn) (hname : (fn.name == "runtime.NumGoroutine") = false) (hb : fn.body.isSome = true) (args : Array Value)
    (hw : Region.wanted oi (yielded ops a.tmps) = true) (hN : oi.dst = N) (hop : oi.op = .call { callee := .value (.func f), args := as', argTypes := ts }) (hargs : as'.map a.eval = args)
    (h : Calls P f args w fun e w' => (∃ v, e = .returned v ∧ K (a.put N v) w') ∨ (∃ ch, e = .panicked ch ∧ Q (.panic ch) a w')) : if Region.wanted oi (yielded ops a.tmps) = true then Oper.wp P oi a w K Q else K (a.put N undef) w := by
  have he := enters_ hf hname hb args w
  have hrun : (execOp a.eval oi).run P w = .ok (.enter f args) w := by
    unfold execOp
    simp [hop, resolve, Deferred.ofValue, invoke, Act.eval, hargs, he]
  rw [if_pos hw]
  subst hN
  unfold Oper.wp
  rw [hrun, Oper.upon_enter]
  refine h.mono fun e w'' hh => ?_
  rcases hh with ⟨v, rfl, hk⟩ | ⟨ch, rfl, hk⟩
  · exact hk
  · exact hk
/-- One reading behind another. -/
def Rd.bind {α β : Type} (r : Rd α) (f : α → List Int → Rd β) : Rd β := match r with
  | .error e => .error e
  | .ok (a, ys) => f a ys
theorem Rd.bind_ok {α β : Type} {r : Rd α} {a : α} {ys : List Int} (h : r = .ok (a, ys)) (f : α → List Int → Rd β) : r.bind f = f a ys := by rw [h]; rfl
theorem Rd.bind_err {α β : Type} {r : Rd α} {c : Int} (h : r = .error c) (f : α → List Int → Rd β) : r.bind f = .error c := by rw [h]; rfl
def rTup (xs : List Int) : Rd Tup := (rText xs).bind fun o ys => (rText ys).bind fun r zs => (rText zs).bind fun u vs => .ok ((o, r, u), vs)
def rMut (xs : List Int) : Rd Mut := (rFlag xs).bind fun f ys => (rTup ys).bind fun t zs => .ok ((f, t), zs)
def rRow (xs : List Int) : Rd Rw := (rTup xs).bind fun t ys => (rInt ys).bind fun s zs => (rInt zs).bind fun u vs => .ok ((t, s, u), vs)
abbrev scapP (b p : Nat) : HP := blk b (.cells #[.pointer (some ⟨p, 0, none⟩)] 146)
section
variable {w0 w : World} {F : HP} {p b : Nat} {xs : List Int}
theorem src_in {A R : HP} (h : Hw w0 w (A * (srcP w0 p xs * R))) : Hw w0 w (srcP w0 p xs * (A * R)) := h.as (HP.left_comm _ _ _)
set_option maxHeartbeats 800000 in
theorem rtup_ok (h : Hw w0 w (srcP w0 p xs * F)) :
    Calls Try.prog 117 #[.pointer (some ⟨p, 0, none⟩)] w (ReadPost w0 F p (rTup xs) tupV) := by
  have R := Aside0.mk (rtext_ok (src_in (h.alloc (.cells #[.string ⟨#[]⟩, .string ⟨#[]⟩, .string ⟨#[]⟩] 133))))
  have RT := Aside0.mk (show rTup xs = (rText xs).bind fun o ys => (rText ys).bind fun r zs => (rText zs).bind fun u vs => .ok ((o, r, u), vs) from rfl)
  clear h
  go_enter Try.func117, Try.ntmps117
  go_wp2_with fail
  refine R.out.mono ?_
  rintro e w1 (⟨o, ys, hr, rfl, g⟩ | ⟨c, ys, hr, hc, rfl, g⟩)
  · have R1 := Aside0.mk (RT.out.trans (Rd.bind_ok hr _))
    have R2 := Aside0.mk (rtext_ok g)
    clear g hr RT R
    go_wp2_with fail
    refine R2.out.mono ?_
    rintro e w2 (⟨r, zs, hr, rfl, g⟩ | ⟨c, ys', hr, hc, rfl, g⟩)
    · have R3 := Aside0.mk (R1.out.trans (Rd.bind_ok hr _))
      have R4 := Aside0.mk (rtext_ok g)
      clear g hr R1 R2
      go_wp2_with fail
      refine R4.out.mono ?_
      rintro e w3 (⟨u, vs, hr, rfl, g⟩ | ⟨c, ys', hr, hc, rfl, g⟩)
      · have R5 := Aside0.mk (R3.out.trans (Rd.bind_ok hr _))
        have G := Aside0.mk (g.atB w.heap.size)
        have k0 := G.out.cell (i := 0) (v := .string ⟨#[]⟩) rfl
        have k1 := G.out.cell (i := 1) (v := .string ⟨#[]⟩) rfl
        have k2 := G.out.cell (i := 2) (v := .string ⟨#[]⟩) rfl
        have kf := G.out.unfrozen
        have G2 := Aside0.mk (((G.out.set 0 (.string o)).set 1 (.string r)).set 2 (.string u))
        clear g hr R3 R4
        go_wp2_with fail
        have z0 := G2.out.cell (i := 0) (v := .string o) rfl
        have z1 := G2.out.cell (i := 1) (v := .string r) rfl
        have z2 := G2.out.cell (i := 2) (v := .string u) rfl
        refine bodyPost_ret (v := .agg #[.string o, .string r, .string u]) (by simp [results, Try.results117, go_sem, z0, z1, z2]) rfl (.inl ⟨(o, r, u), vs, R5.out, rfl, ?_⟩)
        exact G2.out.right
      · exact ⟨rfl, .inr ⟨c, ys', R3.out.trans (Rd.bind_err hr _), hc, rfl, g.dropB w.heap.size⟩⟩
    · exact ⟨rfl, .inr ⟨c, ys', R1.out.trans (Rd.bind_err hr _), hc, rfl, g.dropB w.heap.size⟩⟩
  · exact ⟨rfl, .inr ⟨c, ys, RT.out.trans (Rd.bind_err hr _), hc, rfl, g.dropB w.heap.size⟩⟩
set_option maxHeartbeats 800000 in
theorem r1_one (h : Hw w0 w (srcP w0 p xs * (scapP b p * F))) :
    Calls Try.prog 114 #[.pointer (some ⟨b, 0, none⟩)] w (ReadPost w0 (scapP b p * F) p (rInt xs) (Value.int .i64)) := by
  have R := Aside0.mk (rint_ok h)
  have q0 := h.cellAt b 0 (v := .pointer (some ⟨p, 0, none⟩)) rfl
  clear h
  go_enter Try.func114, Try.ntmps114
  go_wp2_with fail
  refine R.out.mono ?_
  rintro e w1 (⟨n, ys, hr, rfl, g⟩ | ⟨c, ys, hr, hc, rfl, g⟩)
  · have RE := Aside0.mk hr
    have G := Aside0.mk g
    clear g hr
    go_wp2_with fail
    go_ret
    exact .inl ⟨n, ys, RE.out, rfl, G.out⟩
  · exact ⟨rfl, .inr ⟨c, ys, hr, hc, rfl, g⟩⟩
set_option maxHeartbeats 800000 in
theorem r2_one (h : Hw w0 w (srcP w0 p xs * (scapP b p * F))) :
    Calls Try.prog 116 #[.pointer (some ⟨b, 0, none⟩)] w (ReadPost w0 (scapP b p * F) p (rMut xs) mutV) := by
  have H1 := Aside0.mk (src_in (h.alloc (.cells #[.bool false, .string ⟨#[]⟩, .string ⟨#[]⟩, .string ⟨#[]⟩] 135)))
  have R := Aside0.mk (rflag_ok H1.out)
  have RT := Aside0.mk (show rMut xs = (rFlag xs).bind fun f ys => (rTup ys).bind fun t zs => .ok ((f, t), zs) from rfl)
  have q0 := H1.out.cellAt b 0 (v := .pointer (some ⟨p, 0, none⟩)) rfl
  clear h
  go_enter Try.func116, Try.ntmps116
  go_wp2_with fail
  refine R.out.mono ?_
  rintro e w1 (⟨o, ys, hr, rfl, g⟩ | ⟨c, ys, hr, hc, rfl, g⟩)
  · have R1 := Aside0.mk (RT.out.trans (Rd.bind_ok hr _))
    have R2 := Aside0.mk (rtup_ok g)
    have q1 := g.cellAt b 0 (v := .pointer (some ⟨p, 0, none⟩)) rfl
    clear g hr RT R q0 H1
    go_wp2_with fail
    refine R2.out.mono ?_
    rintro e w2 (⟨⟨t1, t2, t3⟩, zs, hr, rfl, g⟩ | ⟨c, ys', hr, hc, rfl, g⟩)
    · have R5 := Aside0.mk (R1.out.trans (Rd.bind_ok hr _))
      have G := Aside0.mk (g.atB w.heap.size)
      have k0 := G.out.cell (i := 0) (v := .bool false) rfl
      have k1 := G.out.cell (i := 1) (v := .string ⟨#[]⟩) rfl
      have k2 := G.out.cell (i := 2) (v := .string ⟨#[]⟩) rfl
      have k3 := G.out.cell (i := 3) (v := .string ⟨#[]⟩) rfl
      have kf := G.out.unfrozen
      have G2 := Aside0.mk ((((G.out.set 0 (.bool o)).set 1 (.string t1)).set 2 (.string t2)).set 3 (.string t3))
      clear g hr R1 R2 q1
      go_wp2_with fail
      have z0 := G2.out.cell (i := 0) (v := .bool o) rfl
      have z1 := G2.out.cell (i := 1) (v := .string t1) rfl
      have z2 := G2.out.cell (i := 2) (v := .string t2) rfl
      have z3 := G2.out.cell (i := 3) (v := .string t3) rfl
      refine bodyPost_ret (v := .agg #[.bool o, .string t1, .string t2, .string t3]) (by simp [results, Try.results116, go_sem, z0, z1, z2, z3]) rfl (.inl ⟨(o, t1, t2, t3), zs, R5.out, rfl, ?_⟩)
      exact G2.out.right
    · exact ⟨rfl, .inr ⟨c, ys', R1.out.trans (Rd.bind_err hr _), hc, rfl, g.dropB w.heap.size⟩⟩
  · exact ⟨rfl, .inr ⟨c, ys, RT.out.trans (Rd.bind_err hr _), hc, rfl, g.dropB w.heap.size⟩⟩
set_option maxHeartbeats 800000 in
theorem r3_one (h : Hw w0 w (srcP w0 p xs * (scapP b p * F))) :
    Calls Try.prog 119 #[.pointer (some ⟨b, 0, none⟩)] w (ReadPost w0 (scapP b p * F) p (rMut xs) mutV) := by
  have H1 := Aside0.mk (src_in (h.alloc (.cells #[.bool false, .string ⟨#[]⟩, .string ⟨#[]⟩, .string ⟨#[]⟩] 143)))
  have R := Aside0.mk (rflag_ok H1.out)
  have RT := Aside0.mk (show rMut xs = (rFlag xs).bind fun f ys => (rTup ys).bind fun t zs => .ok ((f, t), zs) from rfl)
  have q0 := H1.out.cellAt b 0 (v := .pointer (some ⟨p, 0, none⟩)) rfl
  clear h
  go_enter Try.func119, Try.ntmps119
  go_wp2_with fail
  refine R.out.mono ?_
  rintro e w1 (⟨o, ys, hr, rfl, g⟩ | ⟨c, ys, hr, hc, rfl, g⟩)
  · have R1 := Aside0.mk (RT.out.trans (Rd.bind_ok hr _))
    have R2 := Aside0.mk (rtup_ok g)
    have q1 := g.cellAt b 0 (v := .pointer (some ⟨p, 0, none⟩)) rfl
    clear g hr RT R q0 H1
    go_wp2_with fail
    refine R2.out.mono ?_
    rintro e w2 (⟨⟨t1, t2, t3⟩, zs, hr, rfl, g⟩ | ⟨c, ys', hr, hc, rfl, g⟩)
    · have R5 := Aside0.mk (R1.out.trans (Rd.bind_ok hr _))
      have G := Aside0.mk (g.atB w.heap.size)
      have k0 := G.out.cell (i := 0) (v := .bool false) rfl
      have k1 := G.out.cell (i := 1) (v := .string ⟨#[]⟩) rfl
      have k2 := G.out.cell (i := 2) (v := .string ⟨#[]⟩) rfl
      have k3 := G.out.cell (i := 3) (v := .string ⟨#[]⟩) rfl
      have kf := G.out.unfrozen
      have G2 := Aside0.mk ((((G.out.set 0 (.bool o)).set 1 (.string t1)).set 2 (.string t2)).set 3 (.string t3))
      clear g hr R1 R2 q1
      go_wp2_with fail
      have z0 := G2.out.cell (i := 0) (v := .bool o) rfl
      have z1 := G2.out.cell (i := 1) (v := .string t1) rfl
      have z2 := G2.out.cell (i := 2) (v := .string t2) rfl
      have z3 := G2.out.cell (i := 3) (v := .string t3) rfl
      refine bodyPost_ret (v := .agg #[.bool o, .string t1, .string t2, .string t3]) (by simp [results, Try.results119, go_sem, z0, z1, z2, z3]) rfl (.inl ⟨(o, t1, t2, t3), zs, R5.out, rfl, ?_⟩)
      exact G2.out.right
    · exact ⟨rfl, .inr ⟨c, ys', R1.out.trans (Rd.bind_err hr _), hc, rfl, g.dropB w.heap.size⟩⟩
  · exact ⟨rfl, .inr ⟨c, ys, RT.out.trans (Rd.bind_err hr _), hc, rfl, g.dropB w.heap.size⟩⟩
set_option maxHeartbeats 1600000 in
set_option maxRecDepth 100000 in
theorem r4_one (h : Hw w0 w (srcP w0 p xs * (scapP b p * F))) :
    Calls Try.prog 121 #[.pointer (some ⟨b, 0, none⟩)] w (ReadPost w0 (scapP b p * F) p (rRow xs) rowV) := by
  have H1 := Aside0.mk (src_in (h.alloc (.cells #[.string ⟨#[]⟩, .string ⟨#[]⟩, .string ⟨#[]⟩, .int .i64 0, .int .i64 0] 145)))
  have R := Aside0.mk (rtup_ok H1.out)
  have RT := Aside0.mk (show rRow xs = (rTup xs).bind fun t ys => (rInt ys).bind fun s zs => (rInt zs).bind fun u vs => .ok ((t, s, u), vs) from rfl)
  have q0 := H1.out.cellAt b 0 (v := .pointer (some ⟨p, 0, none⟩)) rfl
  clear h
  go_enter Try.func121, Try.ntmps121
  go_wp2_with fail
  refine R.out.mono ?_
  rintro e w1 (⟨⟨t1, t2, t3⟩, ys, hr, rfl, g⟩ | ⟨c, ys, hr, hc, rfl, g⟩)
  · have R1 := Aside0.mk (RT.out.trans (Rd.bind_ok hr _))
    have H2 := Aside0.mk (src_in (g.alloc (.cells #[.string t1, .string t2, .string t3] 133)))
    have R2 := Aside0.mk (rint_ok H2.out)
    have q1 := H2.out.cellAt b 0 (v := .pointer (some ⟨p, 0, none⟩)) rfl
    clear g hr RT R q0 H1
    go_wp2_with fail
    refine R2.out.mono ?_
    rintro e w2 (⟨s, zs, hr, rfl, g⟩ | ⟨c, ys', hr, hc, rfl, g⟩)
    · have R3 := Aside0.mk (R1.out.trans (Rd.bind_ok hr _))
      have R4 := Aside0.mk (rint_ok g.drew)
      have q2 := g.cellAt b 0 (v := .pointer (some ⟨p, 0, none⟩)) rfl
      have u0 := g.cellAt w1.heap.size 0 (v := .string t1) rfl
      have u1 := g.cellAt w1.heap.size 1 (v := .string t2) rfl
      have u2 := g.cellAt w1.heap.size 2 (v := .string t3) rfl
      clear g hr R1 R2 q1 H2
      go_wp2_with fail
      refine start_ (n := 6) (S := fun w' => w'.cell? ⟨w1.heap.size, 0, none⟩ = some (.string t1) ∧ w'.cell? ⟨w1.heap.size, 1, none⟩ = some (.string t2) ∧ w'.cell? ⟨w1.heap.size, 2, none⟩ = some (.string t3) ∧ w'.cell? ⟨b, 0, none⟩ = some (.pointer (some ⟨p, 0, none⟩))) (ds := [5]) #[false, false, false, false, false, false] (by kernel_rfl) rfl rfl ⟨u0, u1, u2, q2⟩ (fun hHeld => ?_)
      refine pure_ (i := 1) (N := some 9) (v := ?_) (a' := ?_) #[false, true, false, false, false, false] rfl rfl (by kernel_rfl) (fun _ _ _ h => h) (Or.inl ⟨by rfl, ?_⟩) ?_ ?_
      rotate_left
      · intro w'
        go_simp
        with_reducible rfl
      rotate_left
      · simp only [Act.put, List.setIfInBounds_toArray, List.set_cons_zero, List.set_cons_succ, i64_w, i32_w]
        rfl
      refine take_ (i := 0) (N := some 8) (v := ?_) (a' := ?_) #[true, true, false, false, false, false] rfl rfl (by kernel_rfl) (fun _ _ _ h => h) (Or.inl ⟨by rfl, ?_⟩) hHeld ?_ ?_
      rotate_left
      · rintro w' ⟨s0, s1, s2, s3⟩
        go_simp
        with_reducible rfl
      rotate_left
      · simp only [Act.put, List.setIfInBounds_toArray, List.set_cons_zero, List.set_cons_succ, i64_w, i32_w]
        rfl
      refine take_ (i := 2) (N := some 10) (v := ?_) (a' := ?_) #[true, true, true, false, false, false] rfl rfl (by kernel_rfl) (fun _ _ _ h => h) (Or.inl ⟨by rfl, ?_⟩) hHeld ?_ ?_
      rotate_left
      · rintro w' ⟨s0, s1, s2, s3⟩
        go_simp
        with_reducible rfl
      rotate_left
      · simp only [Act.put, List.setIfInBounds_toArray, List.set_cons_zero, List.set_cons_succ, i64_w, i32_w]
        rfl
      refine one_ (i := 3) (N := some 11) #[true, true, true, true, false, false] rfl rfl (by kernel_rfl) (by decide) (fun K hK => ?_)
      refine goesP_ Try.func111 (by kernel_rfl) rfl #[.pointer (some ⟨p, 0, none⟩)] (by rfl) rfl rfl (by simp only [List.map_toArray, List.map_cons, List.map_nil]; rfl) ?_
      with_reducible refine (R4.out).mono ?_
      rintro e w3 (⟨u, vs, hr, rfl, g⟩ | ⟨c, ys', hr, hc, rfl, g⟩)
      rotate_left
      · refine .inr ⟨_, rfl, ?_⟩
        exact ⟨rfl, .inr ⟨c, ys', R3.out.trans (Rd.bind_err hr _), hc, rfl, (g.dropB w1.heap.size).dropB w.heap.size⟩⟩
      refine .inl ⟨_, rfl, ?_⟩
      have R5 := Aside0.mk (R3.out.trans (Rd.bind_ok hr _))
      have G := Aside0.mk (g.atB w.heap.size)
      have y0 := g.cellAt w1.heap.size 0 (v := .string t1) rfl
      have y1 := g.cellAt w1.heap.size 1 (v := .string t2) rfl
      have y2 := g.cellAt w1.heap.size 2 (v := .string t3) rfl
      have y3 := g.cellAt b 0 (v := .pointer (some ⟨p, 0, none⟩)) rfl
      have k0 := G.out.cell (i := 0) (v := .string ⟨#[]⟩) rfl
      have k1 := G.out.cell (i := 1) (v := .string ⟨#[]⟩) rfl
      have k2 := G.out.cell (i := 2) (v := .string ⟨#[]⟩) rfl
      have k3 := G.out.cell (i := 3) (v := .int .i64 0) rfl
      have k4 := G.out.cell (i := 4) (v := .int .i64 0) rfl
      have kf := G.out.unfrozen
      clear g hr R3 R4
      refine hK.out _ _ ⟨y0, y1, y2, y3⟩ (fun hHeld => ?_)
      clear hK K
      refine norm_ (a' := ?_) ?_ ?_
      rotate_left
      · show Act.put _ (some 11) _ = _
        simp only [Act.put, List.setIfInBounds_toArray, List.set_cons_zero, List.set_cons_succ, i64_w, i32_w]
        rfl
      refine pure_ (i := 4) (N := some 12) (v := ?_) (a' := ?_) #[true, true, true, true, true, false] rfl rfl (by kernel_rfl) (fun _ _ _ h => h) (Or.inl ⟨by rfl, ?_⟩) ?_ ?_
      rotate_left
      · intro w'
        go_simp
        with_reducible rfl
      rotate_left
      · simp only [Act.put, List.setIfInBounds_toArray, List.set_cons_zero, List.set_cons_succ, i64_w, i32_w]
        rfl
      refine last_ (i := 5) (N := none) #[true, true, true, true, true, true] rfl rfl (by kernel_rfl) (by decide) (fun K hK => ?_)
      refine skip_ (w1 := ?_) (by rfl) rfl ?_ ?_
      rotate_left
      · go_simp
        rfl
      refine hK.out _ _ ?_
      clear hK K
      refine done_ (by kernel_rfl) ?_
      have G2 := Aside0.mk (((((G.out.set 0 (.string t1)).set 1 (.string t2)).set 2 (.string t3)).set 3 (.int .i64 s)).set 4 (.int .i64 u))
      clear hHeld y0 y1 y2 y3 k0 k1 k2 k3 k4 kf
      go_wp2_with fail
      have z0 := G2.out.cell (i := 0) (v := .string t1) rfl
      have z1 := G2.out.cell (i := 1) (v := .string t2) rfl
      have z2 := G2.out.cell (i := 2) (v := .string t3) rfl
      have z3 := G2.out.cell (i := 3) (v := .int .i64 s) rfl
      have z4 := G2.out.cell (i := 4) (v := .int .i64 u) rfl
      refine bodyPost_ret (v := .agg #[.string t1, .string t2, .string t3, .int .i64 s, .int .i64 u]) (by simp [results, Try.results121, go_sem, z0, z1, z2, z3, z4]) rfl (.inl ⟨((t1, t2, t3), s, u), vs, R5.out, rfl, ?_⟩)
      exact G2.out.right.dropB w1.heap.size
    · exact ⟨rfl, .inr ⟨c, ys', R1.out.trans (Rd.bind_err hr _), hc, rfl, (g.dropB w1.heap.size).dropB w.heap.size⟩⟩
  · exact ⟨rfl, .inr ⟨c, ys, RT.out.trans (Rd.bind_err hr _), hc, rfl, g.dropB w.heap.size⟩⟩
end
end Go.Proofs.Ytckdkbjobipniaa

/- The source: the lists of a message. Printed by gen/coder.py. -/
set_option linter.unusedVariables false
set_option linter.unusedSimpArgs false
namespace Go.Proofs.Ytckdkbjobipniaa
open Go.RowKit Go.Proofs.YtckdkbjobipniaaW.PrintWords Go.Proofs.YtckdkbjobipniaaW.PrintLast
def rMany {α : Type} (one : List Int → Rd α) : Nat → List Int → Rd (List α)
  | 0, xs => .ok ([], xs)
  | k + 1, xs => (one xs).bind fun a ys => (rMany one k ys).bind fun l zs => .ok (a :: l, zs)
def rList {α : Type} (one : List Int → Rd α) (xs : List Int) : Rd (List α) := (rCount 1024 xs).bind fun n ys => rMany one n ys
theorem rCount_le {most : Int} (hm : 0 ≤ most) {xs ys : List Int} {n : Nat} (h : rCount most xs = .ok (n, ys)) : (n : Int) ≤ most := by
  unfold rCount at h
  split at h
  · cases h
  · rename_i m zs hr
    split at h
    · cases h
    · injection h with h
      injection h with h1 h2
      omega
theorem many_step {α : Type} {one : List Int → Rd α} {r : Rd (List α)} {l : List α} {k : Nat} {xs ys : List Int} {a : α} (h : r = (rMany one (k + 1) xs).bind fun l' vs => .ok (l ++ l', vs)) (h1 : one xs = .ok (a, ys)) :
    r = (rMany one k ys).bind fun l' vs => .ok ((l ++ [a]) ++ l', vs) := by
  rw [h]
  show ((one xs).bind fun a ys => (rMany one k ys).bind fun l zs => .ok (a :: l, zs)).bind _ = _
  rw [Rd.bind_ok h1]
  cases hr : rMany one k ys with
  | error e => rfl
  | ok p => simp [Rd.bind]
theorem many_err {α : Type} {one : List Int → Rd α} {r : Rd (List α)} {l : List α} {k : Nat} {xs : List Int} {c : Int} (h : r = (rMany one (k + 1) xs).bind fun l' vs => .ok (l ++ l', vs)) (h1 : one xs = .error c) : r = .error c := by
  rw [h]
  show ((one xs).bind fun a ys => (rMany one k ys).bind fun l zs => .ok (a :: l, zs)).bind _ = _
  rw [Rd.bind_err h1]; rfl
theorem many_end {α : Type} {one : List Int → Rd α} {r : Rd (List α)} {l : List α} {xs : List Int} (h : r = (rMany one 0 xs).bind fun l' vs => .ok (l ++ l', vs)) : r = .ok (l, xs) := by
  rw [h]
  show Except.ok (l ++ [], xs) = _
  rw [List.append_nil]
theorem flat_at {α : Type} (cs : α → List Value) (sz : Nat) (hl : ∀ x, (cs x).length = sz) : ∀ (l : List α) (j i : Nat) (x : α), l[j]? = some x → i < sz → (l.flatMap cs)[j * sz + i]? = (cs x)[i]?
  | [], j, i, x, h, _ => by simp at h
  | y :: l, 0, i, x, h, hi => by
    obtain rfl : y = x := by simpa using h
    rw [List.flatMap_cons, Nat.zero_mul, Nat.zero_add, List.getElem?_append_left (by rw [hl]; exact hi)]
  | y :: l, j + 1, i, x, h, hi => by
    rw [List.flatMap_cons, List.getElem?_append_right (by rw [hl, Nat.add_mul]; omega), hl, show (j + 1) * sz + i - sz = j * sz + i by rw [Nat.add_mul]; omega]
    exact flat_at cs sz hl l j i x (by simpa using h) hi
theorem crow_C {α : Type} {d : Kd α} {w0 w : World} {F : HP} {e n c : Nat} {A : Option Addr} {l : List α} (cs : α → List Value) (hK : ∀ w x, d.K w x (cs x)) (hz : 0 < d.sz) (h : Hw w0 w (crow d.sz e A n c (l.flatMap cs) * F)) (hn : l.length = n) (hm : n ≤ 9223372036854775807) : d.C w A n l := by
  refine ⟨hn, hm, fun hp => ?_⟩
  obtain ⟨ad, e, hc⟩ := crow_reads h hp
  refine ⟨ad, e, fun j p hj => ⟨cs p, d.K_len (hK w p), hK w p, fun i u hu => ?_⟩⟩
  have hi : i < d.sz := by
    have := (List.getElem?_eq_some_iff.1 hu).1
    rwa [d.K_len (hK w p)] at this
  exact hc _ _ (by rw [flat_at cs d.sz (fun x => d.K_len (hK w x)) l j i p hj hi]; exact hu)
abbrev intC (n : Int) : List Value := [.int .i64 n]
theorem KInt_mk (w : World) (x : Int) : (Kd.int .i64).K w x (intC x) := rfl
theorem KMut_mk (w : World) (x : Mut) : KMut.K w x (mutC x) := ⟨[.bool x.1], _, rfl, rfl, [.string x.2.1], _, rfl, rfl, [.string x.2.2.1], [.string x.2.2.2], rfl, rfl, rfl⟩
theorem KRow_mk (w : World) (x : Rw) : KRow.K w x (rowC x) := ⟨[.string x.1.1, .string x.1.2.1, .string x.1.2.2], _, rfl, ⟨[.string x.1.1], _, rfl, rfl, [.string x.1.2.1], [.string x.1.2.2], rfl, rfl, rfl⟩, [.int .i64 x.2.1], [.int .i64 x.2.2], rfl, rfl, rfl⟩
theorem Try.infoInt : (Try.prog.info? 3).map (fun i => (i.zero, i.size, i.bytes)) = some (some (.int .i64 0), 1, 8) := by kernel_rfl
theorem Try.infoMut : (Try.prog.info? 135).map (fun i => (i.zero, i.size, i.bytes)) = some (some (.agg #[.bool false, .string ⟨#[]⟩, .string ⟨#[]⟩, .string ⟨#[]⟩]), 4, 56) := by kernel_rfl
theorem Try.infoCond : (Try.prog.info? 143).map (fun i => (i.zero, i.size, i.bytes)) = some (some (.agg #[.bool false, .string ⟨#[]⟩, .string ⟨#[]⟩, .string ⟨#[]⟩]), 4, 56) := by kernel_rfl
theorem Try.infoRow : (Try.prog.info? 145).map (fun i => (i.zero, i.size, i.bytes)) = some (some (.agg #[.string ⟨#[]⟩, .string ⟨#[]⟩, .string ⟨#[]⟩, .int .i64 0, .int .i64 0]), 5, 64) := by kernel_rfl
section
variable {w0 w : World} {F : HP} {p b : Nat} {xs : List Int}

set_option maxHeartbeats 3200000 in
set_option maxRecDepth 100000 in
theorem rlist1_ok (h : Hw w0 w (srcP w0 p xs * (scapP b p * F))) :
    Calls Try.prog 113 #[.pointer (some ⟨p, 0, none⟩), .func (.func 114) #[] #[.pointer (some ⟨b, 0, none⟩)]] w fun e w' =>
      (∃ l ys A n c, rList rInt xs = .ok (l, ys) ∧ n = l.length ∧ n ≤ 1024 ∧ e = .returned (.slice A n c) ∧ Hw w0 w' (srcP w0 p ys * (crow 1 3 A n c (l.flatMap intC) * (scapP b p * F)))) ∨
      (∃ c ys, rList rInt xs = .error c ∧ c ≠ 0 ∧ e = thrown c ∧ Hw w0 w' (srcP w0 p ys * (scapP b p * F))) := by
  have R := Aside0.mk (rcount_ok 1024 (by decide) h)
  have RT := Aside0.mk (show rList rInt xs = (rCount 1024 xs).bind fun n ys => rMany rInt n ys from rfl)
  clear h
  go_enter Try.func113, Try.ntmps113
  go_wp2_with fail
  refine R.out.mono ?_
  rintro e w1 (⟨n, ys, hr, rfl, g⟩ | ⟨c, ys, hr, hc, rfl, g⟩)
  · have hn1024 : n ≤ 1024 := by have := rCount_le (by decide) hr; omega
    have R1 := Aside0.mk (show rList rInt xs = (rMany rInt (n - 0) ys).bind fun l' vs => .ok (([] : List _) ++ l', vs) by
      rw [RT.out, Rd.bind_ok hr, Nat.sub_zero]
      cases rMany rInt n ys with
      | error e => rfl
      | ok p => rfl)
    have G := Aside0.mk ((crow_none (sz := 1) (e := 3) (A := none) (n := 0) (cs := []) rfl rfl g).as (Q := srcP w0 p ys * (crow 1 3 none 0 0 (([] : List _).flatMap intC) * (scapP b p * F))) (HP.left_comm _ _ _))
    clear g hr RT R
    go_wp2_with fail
    go_loopw [8, 5] (fun i v wr => ∃ (k : Nat) (l : List _) (A : Option Addr) (c : Nat) (zs : List Int), k ≤ n ∧ i = .int .i64 k ∧ v = .slice A k c ∧ Aside0 (l.length = k) ∧ Aside0 (rList rInt xs = (rMany rInt (n - k) zs).bind fun l' vs => .ok (l ++ l', vs)) ∧
      Aside0 (Hw w0 wr (srcP w0 p zs * (crow 1 3 A k c (l.flatMap intC) * (scapP b p * F))))) (fun i _ _ => n - (intOf i).toNat)
    case atStart => exact ⟨0, [], none, 0, ys, Nat.zero_le _, rfl, rfl, ⟨rfl⟩, R1, G⟩
    case round =>
      obtain ⟨k, l, A, c, zs, hk, rfl, rfl, LL, RR, HW⟩ := hrel
      clear G R1
      by_cases hlt : k < n
      · have RX := Aside0.mk (show rList rInt xs = (rMany rInt (n - (k + 1) + 1) zs).bind fun l' vs => .ok (l ++ l', vs) by rw [show n - (k + 1) + 1 = n - k by omega]; exact RR.out)
        have O := Aside0.mk (r1_one (HW.out.as (Q := srcP w0 p zs * (scapP b p * (crow 1 3 A k c (l.flatMap intC) * F))) (by ac_rfl)))
        clear RR HW
        go_wp2_with fail
        refine O.out.mono ?_
        rintro e w2 (⟨a, vs, hr, rfl, g⟩ | ⟨ce, vs, hr, hc, rfl, g⟩)
        · have R2 := Aside0.mk (many_step RX.out hr)
          have H4 := Aside0.mk ((g.alloc (.cells (intC a).toArray 3)).as (Q := crow 1 3 A k c (l.flatMap intC) * (blk w2.heap.size (.cells (intC a).toArray 3) * (srcP w0 p vs * (scapP b p * F)))) (by ac_rfl))
          have BC := Aside0.mk (blk_cells (H4.out.atB w2.heap.size))
          have FM := Aside0.mk (show (l ++ [a]).flatMap intC = l.flatMap intC ++ intC a by simp)
          clear g hr RX O
          go_wp2_with (at_builtin; refine crow_append (news := intC a) (m := 1) (c := 1) rfl (.tmp 10) (.tmp 13) 22 (.int .i64 0) 8 rfl Try.underlying22 Try.infoInt rfl (by decide) rfl rfl H4.out rfl (by intro u hu; simp only [List.mem_cons, List.not_mem_nil, or_false] at hu; rcases hu with rfl <;> rfl) (fun _ => ⟨_, rfl, BC.out⟩) (by decide) (by omega) ?_; intro A3 c3' w5 h5)
          go_roundw
          case rel => exact ⟨k + 1, l ++ [a], A3, c3', vs, by omega, by go_num, rfl, ⟨by rw [List.length_append, LL.out]; rfl⟩, R2, ⟨by rw [FM.out]; exact (h5.out.dropB w2.heap.size).as (HP.left_comm _ _ _)⟩⟩
          case measure => simp [intOf]; omega
        · exact ⟨rfl, .inr ⟨ce, vs, many_err RX.out hr, hc, rfl, (g.as (Q := srcP w0 p vs * (scapP b p * F) * crow 1 3 A k c (l.flatMap intC)) (by ac_rfl)).left⟩⟩
      · have hk2 : k = n := by omega
        subst hk2
        have RR2 := RR.out
        rw [Nat.sub_self] at RR2
        have RE := Aside0.mk (many_end RR2)
        clear RR RR2
        go_wp2_with fail
        go_ret
        exact .inl ⟨l, zs, A, k, c, RE.out, LL.out.symm, hn1024, rfl, HW.out⟩
  · exact ⟨rfl, .inr ⟨c, ys, RT.out.trans (Rd.bind_err hr _), hc, rfl, g⟩⟩

set_option maxHeartbeats 3200000 in
set_option maxRecDepth 100000 in
theorem rlist2_ok (h : Hw w0 w (srcP w0 p xs * (scapP b p * F))) :
    Calls Try.prog 115 #[.pointer (some ⟨p, 0, none⟩), .func (.func 116) #[] #[.pointer (some ⟨b, 0, none⟩)]] w fun e w' =>
      (∃ l ys A n c, rList rMut xs = .ok (l, ys) ∧ n = l.length ∧ n ≤ 1024 ∧ e = .returned (.slice A n c) ∧ Hw w0 w' (srcP w0 p ys * (crow 4 135 A n c (l.flatMap mutC) * (scapP b p * F)))) ∨
      (∃ c ys, rList rMut xs = .error c ∧ c ≠ 0 ∧ e = thrown c ∧ Hw w0 w' (srcP w0 p ys * (scapP b p * F))) := by
  have R := Aside0.mk (rcount_ok 1024 (by decide) h)
  have RT := Aside0.mk (show rList rMut xs = (rCount 1024 xs).bind fun n ys => rMany rMut n ys from rfl)
  clear h
  go_enter Try.func115, Try.ntmps115
  go_wp2_with fail
  refine R.out.mono ?_
  rintro e w1 (⟨n, ys, hr, rfl, g⟩ | ⟨c, ys, hr, hc, rfl, g⟩)
  · have hn1024 : n ≤ 1024 := by have := rCount_le (by decide) hr; omega
    have R1 := Aside0.mk (show rList rMut xs = (rMany rMut (n - 0) ys).bind fun l' vs => .ok (([] : List _) ++ l', vs) by
      rw [RT.out, Rd.bind_ok hr, Nat.sub_zero]
      cases rMany rMut n ys with
      | error e => rfl
      | ok p => rfl)
    have G := Aside0.mk ((crow_none (sz := 4) (e := 135) (A := none) (n := 0) (cs := []) rfl rfl g).as (Q := srcP w0 p ys * (crow 4 135 none 0 0 (([] : List _).flatMap mutC) * (scapP b p * F))) (HP.left_comm _ _ _))
    clear g hr RT R
    go_wp2_with fail
    go_loopw [8, 5] (fun i v wr => ∃ (k : Nat) (l : List _) (A : Option Addr) (c : Nat) (zs : List Int), k ≤ n ∧ i = .int .i64 k ∧ v = .slice A k c ∧ Aside0 (l.length = k) ∧ Aside0 (rList rMut xs = (rMany rMut (n - k) zs).bind fun l' vs => .ok (l ++ l', vs)) ∧
      Aside0 (Hw w0 wr (srcP w0 p zs * (crow 4 135 A k c (l.flatMap mutC) * (scapP b p * F))))) (fun i _ _ => n - (intOf i).toNat)
    case atStart => exact ⟨0, [], none, 0, ys, Nat.zero_le _, rfl, rfl, ⟨rfl⟩, R1, G⟩
    case round =>
      obtain ⟨k, l, A, c, zs, hk, rfl, rfl, LL, RR, HW⟩ := hrel
      clear G R1
      by_cases hlt : k < n
      · have RX := Aside0.mk (show rList rMut xs = (rMany rMut (n - (k + 1) + 1) zs).bind fun l' vs => .ok (l ++ l', vs) by rw [show n - (k + 1) + 1 = n - k by omega]; exact RR.out)
        have O := Aside0.mk (r2_one (HW.out.as (Q := srcP w0 p zs * (scapP b p * (crow 4 135 A k c (l.flatMap mutC) * F))) (by ac_rfl)))
        clear RR HW
        go_wp2_with fail
        refine O.out.mono ?_
        rintro e w2 (⟨a, vs, hr, rfl, g⟩ | ⟨ce, vs, hr, hc, rfl, g⟩)
        · have R2 := Aside0.mk (many_step RX.out hr)
          have H4 := Aside0.mk ((g.alloc (.cells (mutC a).toArray 135)).as (Q := crow 4 135 A k c (l.flatMap mutC) * (blk w2.heap.size (.cells (mutC a).toArray 135) * (srcP w0 p vs * (scapP b p * F)))) (by ac_rfl))
          have BC := Aside0.mk (blk_cells (H4.out.atB w2.heap.size))
          have FM := Aside0.mk (show (l ++ [a]).flatMap mutC = l.flatMap mutC ++ mutC a by simp)
          clear g hr RX O
          go_wp2_with (at_builtin; refine crow_append (news := mutC a) (m := 1) (c := 1) rfl (.tmp 10) (.tmp 13) 23 (.agg #[.bool false, .string ⟨#[]⟩, .string ⟨#[]⟩, .string ⟨#[]⟩]) 56 rfl Try.underlying23 Try.infoMut rfl (by decide) rfl rfl H4.out rfl (by intro u hu; simp only [List.mem_cons, List.not_mem_nil, or_false] at hu; rcases hu with rfl | rfl | rfl | rfl <;> rfl) (fun _ => ⟨_, rfl, BC.out⟩) (by decide) (by omega) ?_; intro A3 c3' w5 h5)
          go_roundw
          case rel => exact ⟨k + 1, l ++ [a], A3, c3', vs, by omega, by go_num, rfl, ⟨by rw [List.length_append, LL.out]; rfl⟩, R2, ⟨by rw [FM.out]; exact (h5.out.dropB w2.heap.size).as (HP.left_comm _ _ _)⟩⟩
          case measure => simp [intOf]; omega
        · exact ⟨rfl, .inr ⟨ce, vs, many_err RX.out hr, hc, rfl, (g.as (Q := srcP w0 p vs * (scapP b p * F) * crow 4 135 A k c (l.flatMap mutC)) (by ac_rfl)).left⟩⟩
      · have hk2 : k = n := by omega
        subst hk2
        have RR2 := RR.out
        rw [Nat.sub_self] at RR2
        have RE := Aside0.mk (many_end RR2)
        clear RR RR2
        go_wp2_with fail
        go_ret
        exact .inl ⟨l, zs, A, k, c, RE.out, LL.out.symm, hn1024, rfl, HW.out⟩
  · exact ⟨rfl, .inr ⟨c, ys, RT.out.trans (Rd.bind_err hr _), hc, rfl, g⟩⟩

set_option maxHeartbeats 3200000 in
set_option maxRecDepth 100000 in
theorem rlist3_ok (h : Hw w0 w (srcP w0 p xs * (scapP b p * F))) :
    Calls Try.prog 118 #[.pointer (some ⟨p, 0, none⟩), .func (.func 119) #[] #[.pointer (some ⟨b, 0, none⟩)]] w fun e w' =>
      (∃ l ys A n c, rList rMut xs = .ok (l, ys) ∧ n = l.length ∧ n ≤ 1024 ∧ e = .returned (.slice A n c) ∧ Hw w0 w' (srcP w0 p ys * (crow 4 143 A n c (l.flatMap mutC) * (scapP b p * F)))) ∨
      (∃ c ys, rList rMut xs = .error c ∧ c ≠ 0 ∧ e = thrown c ∧ Hw w0 w' (srcP w0 p ys * (scapP b p * F))) := by
  have R := Aside0.mk (rcount_ok 1024 (by decide) h)
  have RT := Aside0.mk (show rList rMut xs = (rCount 1024 xs).bind fun n ys => rMany rMut n ys from rfl)
  clear h
  go_enter Try.func118, Try.ntmps118
  go_wp2_with fail
  refine R.out.mono ?_
  rintro e w1 (⟨n, ys, hr, rfl, g⟩ | ⟨c, ys, hr, hc, rfl, g⟩)
  · have hn1024 : n ≤ 1024 := by have := rCount_le (by decide) hr; omega
    have R1 := Aside0.mk (show rList rMut xs = (rMany rMut (n - 0) ys).bind fun l' vs => .ok (([] : List _) ++ l', vs) by
      rw [RT.out, Rd.bind_ok hr, Nat.sub_zero]
      cases rMany rMut n ys with
      | error e => rfl
      | ok p => rfl)
    have G := Aside0.mk ((crow_none (sz := 4) (e := 143) (A := none) (n := 0) (cs := []) rfl rfl g).as (Q := srcP w0 p ys * (crow 4 143 none 0 0 (([] : List _).flatMap mutC) * (scapP b p * F))) (HP.left_comm _ _ _))
    clear g hr RT R
    go_wp2_with fail
    go_loopw [8, 5] (fun i v wr => ∃ (k : Nat) (l : List _) (A : Option Addr) (c : Nat) (zs : List Int), k ≤ n ∧ i = .int .i64 k ∧ v = .slice A k c ∧ Aside0 (l.length = k) ∧ Aside0 (rList rMut xs = (rMany rMut (n - k) zs).bind fun l' vs => .ok (l ++ l', vs)) ∧
      Aside0 (Hw w0 wr (srcP w0 p zs * (crow 4 143 A k c (l.flatMap mutC) * (scapP b p * F))))) (fun i _ _ => n - (intOf i).toNat)
    case atStart => exact ⟨0, [], none, 0, ys, Nat.zero_le _, rfl, rfl, ⟨rfl⟩, R1, G⟩
    case round =>
      obtain ⟨k, l, A, c, zs, hk, rfl, rfl, LL, RR, HW⟩ := hrel
      clear G R1
      by_cases hlt : k < n
      · have RX := Aside0.mk (show rList rMut xs = (rMany rMut (n - (k + 1) + 1) zs).bind fun l' vs => .ok (l ++ l', vs) by rw [show n - (k + 1) + 1 = n - k by omega]; exact RR.out)
        have O := Aside0.mk (r3_one (HW.out.as (Q := srcP w0 p zs * (scapP b p * (crow 4 143 A k c (l.flatMap mutC) * F))) (by ac_rfl)))
        clear RR HW
        go_wp2_with fail
        refine O.out.mono ?_
        rintro e w2 (⟨a, vs, hr, rfl, g⟩ | ⟨ce, vs, hr, hc, rfl, g⟩)
        · have R2 := Aside0.mk (many_step RX.out hr)
          have H4 := Aside0.mk ((g.alloc (.cells (mutC a).toArray 143)).as (Q := crow 4 143 A k c (l.flatMap mutC) * (blk w2.heap.size (.cells (mutC a).toArray 143) * (srcP w0 p vs * (scapP b p * F)))) (by ac_rfl))
          have BC := Aside0.mk (blk_cells (H4.out.atB w2.heap.size))
          have FM := Aside0.mk (show (l ++ [a]).flatMap mutC = l.flatMap mutC ++ mutC a by simp)
          clear g hr RX O
          go_wp2_with (at_builtin; refine crow_append (news := mutC a) (m := 1) (c := 1) rfl (.tmp 10) (.tmp 13) 24 (.agg #[.bool false, .string ⟨#[]⟩, .string ⟨#[]⟩, .string ⟨#[]⟩]) 56 rfl Try.underlying24 Try.infoCond rfl (by decide) rfl rfl H4.out rfl (by intro u hu; simp only [List.mem_cons, List.not_mem_nil, or_false] at hu; rcases hu with rfl | rfl | rfl | rfl <;> rfl) (fun _ => ⟨_, rfl, BC.out⟩) (by decide) (by omega) ?_; intro A3 c3' w5 h5)
          go_roundw
          case rel => exact ⟨k + 1, l ++ [a], A3, c3', vs, by omega, by go_num, rfl, ⟨by rw [List.length_append, LL.out]; rfl⟩, R2, ⟨by rw [FM.out]; exact (h5.out.dropB w2.heap.size).as (HP.left_comm _ _ _)⟩⟩
          case measure => simp [intOf]; omega
        · exact ⟨rfl, .inr ⟨ce, vs, many_err RX.out hr, hc, rfl, (g.as (Q := srcP w0 p vs * (scapP b p * F) * crow 4 143 A k c (l.flatMap mutC)) (by ac_rfl)).left⟩⟩
      · have hk2 : k = n := by omega
        subst hk2
        have RR2 := RR.out
        rw [Nat.sub_self] at RR2
        have RE := Aside0.mk (many_end RR2)
        clear RR RR2
        go_wp2_with fail
        go_ret
        exact .inl ⟨l, zs, A, k, c, RE.out, LL.out.symm, hn1024, rfl, HW.out⟩
  · exact ⟨rfl, .inr ⟨c, ys, RT.out.trans (Rd.bind_err hr _), hc, rfl, g⟩⟩

set_option maxHeartbeats 3200000 in
set_option maxRecDepth 100000 in
theorem rlist4_ok (h : Hw w0 w (srcP w0 p xs * (scapP b p * F))) :
    Calls Try.prog 120 #[.pointer (some ⟨p, 0, none⟩), .func (.func 121) #[] #[.pointer (some ⟨b, 0, none⟩)]] w fun e w' =>
      (∃ l ys A n c, rList rRow xs = .ok (l, ys) ∧ n = l.length ∧ n ≤ 1024 ∧ e = .returned (.slice A n c) ∧ Hw w0 w' (srcP w0 p ys * (crow 5 145 A n c (l.flatMap rowC) * (scapP b p * F)))) ∨
      (∃ c ys, rList rRow xs = .error c ∧ c ≠ 0 ∧ e = thrown c ∧ Hw w0 w' (srcP w0 p ys * (scapP b p * F))) := by
  have R := Aside0.mk (rcount_ok 1024 (by decide) h)
  have RT := Aside0.mk (show rList rRow xs = (rCount 1024 xs).bind fun n ys => rMany rRow n ys from rfl)
  clear h
  go_enter Try.func120, Try.ntmps120
  go_wp2_with fail
  refine R.out.mono ?_
  rintro e w1 (⟨n, ys, hr, rfl, g⟩ | ⟨c, ys, hr, hc, rfl, g⟩)
  · have hn1024 : n ≤ 1024 := by have := rCount_le (by decide) hr; omega
    have R1 := Aside0.mk (show rList rRow xs = (rMany rRow (n - 0) ys).bind fun l' vs => .ok (([] : List _) ++ l', vs) by
      rw [RT.out, Rd.bind_ok hr, Nat.sub_zero]
      cases rMany rRow n ys with
      | error e => rfl
      | ok p => rfl)
    have G := Aside0.mk ((crow_none (sz := 5) (e := 145) (A := none) (n := 0) (cs := []) rfl rfl g).as (Q := srcP w0 p ys * (crow 5 145 none 0 0 (([] : List _).flatMap rowC) * (scapP b p * F))) (HP.left_comm _ _ _))
    clear g hr RT R
    go_wp2_with fail
    go_loopw [8, 5] (fun i v wr => ∃ (k : Nat) (l : List _) (A : Option Addr) (c : Nat) (zs : List Int), k ≤ n ∧ i = .int .i64 k ∧ v = .slice A k c ∧ Aside0 (l.length = k) ∧ Aside0 (rList rRow xs = (rMany rRow (n - k) zs).bind fun l' vs => .ok (l ++ l', vs)) ∧
      Aside0 (Hw w0 wr (srcP w0 p zs * (crow 5 145 A k c (l.flatMap rowC) * (scapP b p * F))))) (fun i _ _ => n - (intOf i).toNat)
    case atStart => exact ⟨0, [], none, 0, ys, Nat.zero_le _, rfl, rfl, ⟨rfl⟩, R1, G⟩
    case round =>
      obtain ⟨k, l, A, c, zs, hk, rfl, rfl, LL, RR, HW⟩ := hrel
      clear G R1
      by_cases hlt : k < n
      · have RX := Aside0.mk (show rList rRow xs = (rMany rRow (n - (k + 1) + 1) zs).bind fun l' vs => .ok (l ++ l', vs) by rw [show n - (k + 1) + 1 = n - k by omega]; exact RR.out)
        have O := Aside0.mk (r4_one (HW.out.as (Q := srcP w0 p zs * (scapP b p * (crow 5 145 A k c (l.flatMap rowC) * F))) (by ac_rfl)))
        clear RR HW
        go_wp2_with fail
        refine O.out.mono ?_
        rintro e w2 (⟨a, vs, hr, rfl, g⟩ | ⟨ce, vs, hr, hc, rfl, g⟩)
        · have R2 := Aside0.mk (many_step RX.out hr)
          have H4 := Aside0.mk ((g.alloc (.cells (rowC a).toArray 145)).as (Q := crow 5 145 A k c (l.flatMap rowC) * (blk w2.heap.size (.cells (rowC a).toArray 145) * (srcP w0 p vs * (scapP b p * F)))) (by ac_rfl))
          have BC := Aside0.mk (blk_cells (H4.out.atB w2.heap.size))
          have FM := Aside0.mk (show (l ++ [a]).flatMap rowC = l.flatMap rowC ++ rowC a by simp)
          clear g hr RX O
          go_wp2_with (at_builtin; refine crow_append (news := rowC a) (m := 1) (c := 1) rfl (.tmp 10) (.tmp 13) 25 (.agg #[.string ⟨#[]⟩, .string ⟨#[]⟩, .string ⟨#[]⟩, .int .i64 0, .int .i64 0]) 64 rfl Try.underlying25 Try.infoRow rfl (by decide) rfl rfl H4.out rfl (by intro u hu; simp only [List.mem_cons, List.not_mem_nil, or_false] at hu; rcases hu with rfl | rfl | rfl | rfl | rfl <;> rfl) (fun _ => ⟨_, rfl, BC.out⟩) (by decide) (by omega) ?_; intro A3 c3' w5 h5)
          go_roundw
          case rel => exact ⟨k + 1, l ++ [a], A3, c3', vs, by omega, by go_num, rfl, ⟨by rw [List.length_append, LL.out]; rfl⟩, R2, ⟨by rw [FM.out]; exact (h5.out.dropB w2.heap.size).as (HP.left_comm _ _ _)⟩⟩
          case measure => simp [intOf]; omega
        · exact ⟨rfl, .inr ⟨ce, vs, many_err RX.out hr, hc, rfl, (g.as (Q := srcP w0 p vs * (scapP b p * F) * crow 5 145 A k c (l.flatMap rowC)) (by ac_rfl)).left⟩⟩
      · have hk2 : k = n := by omega
        subst hk2
        have RR2 := RR.out
        rw [Nat.sub_self] at RR2
        have RE := Aside0.mk (many_end RR2)
        clear RR RR2
        go_wp2_with fail
        go_ret
        exact .inl ⟨l, zs, A, k, c, RE.out, LL.out.symm, hn1024, rfl, HW.out⟩
  · exact ⟨rfl, .inr ⟨c, ys, RT.out.trans (Rd.bind_err hr _), hc, rfl, g⟩⟩
end
end Go.Proofs.Ytckdkbjobipniaa

/- The source: a message. -/
set_option linter.unusedVariables false
set_option linter.unusedSimpArgs false
namespace Go.Proofs.Ytckdkbjobipniaa
open Go.RowKit Go.Proofs.YtckdkbjobipniaaW.PrintWords Go.Proofs.YtckdkbjobipniaaW.PrintLast
theorem many_stepG {α β : Type} {one : List Int → Rd α} {r : Rd β} {G : List α → List Int → Rd β} {l : List α} {k : Nat} {xs ys : List Int} {a : α} (h : r = (rMany one (k + 1) xs).bind fun l' vs => G (l ++ l') vs) (h1 : one xs = .ok (a, ys)) :
    r = (rMany one k ys).bind fun l' vs => G ((l ++ [a]) ++ l') vs := by
  rw [h]
  show ((one xs).bind fun a ys => (rMany one k ys).bind fun l zs => .ok (a :: l, zs)).bind _ = _
  rw [Rd.bind_ok h1]
  cases hr : rMany one k ys with
  | error e => rfl
  | ok p => simp [Rd.bind]
theorem many_errG {α β : Type} {one : List Int → Rd α} {r : Rd β} {G : List α → List Int → Rd β} {l : List α} {k : Nat} {xs : List Int} {c : Int} (h : r = (rMany one (k + 1) xs).bind fun l' vs => G (l ++ l') vs) (h1 : one xs = .error c) : r = .error c := by
  rw [h]
  show ((one xs).bind fun a ys => (rMany one k ys).bind fun l zs => .ok (a :: l, zs)).bind _ = _
  rw [Rd.bind_err h1]; rfl
/-- The message of seven numbers and what follows. -/
def mkMsg (l : List Int) (f : Bool) (n : List Int) (u p : List Mut) (r : List Rw) : Msg := ⟨l.getD 0 0, l.getD 1 0, l.getD 2 0, l.getD 3 0, l.getD 4 0, l.getD 5 0, l.getD 6 0, f, n, u, p, r⟩
def rRest (l : List Int) (xs : List Int) : Rd Msg := (rFlag xs).bind fun f y0 => (rList rInt y0).bind fun n y1 => (rList rMut y1).bind fun u y2 => (rList rMut y2).bind fun p y3 => (rList rRow y3).bind fun r y4 => .ok (mkMsg l f n u p r, y4)
def rMsg (xs : List Int) : Rd Msg := (rMany rInt 7 xs).bind fun l ys => rRest l ys
def mzero : List Value := [.int .i64 0, .int .i64 0, .int .i64 0, .int .i64 0, .int .i64 0, .int .i64 0, .int .i64 0, .bool false, .slice none 0 0, .slice none 0 0, .slice none 0 0, .slice none 0 0]
/-- The message's cells, the first of them new. -/
def mcells (l : List Value) : Array Value := (l ++ mzero.drop l.length).toArray
theorem mcells_set (l : List Value) (v : Value) (k : Nat) (hk : l.length = k) (h : k < 12) : (mcells l).setIfInBounds k v = mcells (l ++ [v]) := by
  subst hk
  unfold mcells
  rw [List.setIfInBounds_toArray]
  congr 1
  rw [List.set_append_right _ _ (Nat.le_refl _), Nat.sub_self, List.length_append, List.append_assoc]
  congr 1
  have hz : l.length < mzero.length := h
  rw [List.drop_eq_getElem_cons hz]
  rfl
theorem mcells_at (l : List Value) (k : Nat) (h : k < 12) : ∃ v, (mcells l)[k]? = some v := by
  have : k < (mcells l).size := by
    unfold mcells
    have hz : mzero.length = 12 := rfl
    simp only [List.size_toArray, List.length_append, List.length_drop, hz]
    omega
  exact ⟨_, Array.getElem?_eq_getElem this⟩
theorem leaves_same {P : Program} {fn : Func} {R : Ending → World → Prop} {t1 t2 : Array Value} (h : results fn t1 = results fn t2) : ∀ (ds : List Deferred) (u : FrameMode) (w : World), Leaves P fn t1 R ds u w = Leaves P fn t2 R ds u w
  | [], u, w => by cases u <;> simp [Leaves, h]
  | d :: ds, u, w => by
    have ih := leaves_same (P := P) (R := R) h ds
    simp only [Leaves]
    congr 1
    congr 1
    funext fv; congr 1; funext cap; congr 1; funext f; congr 1; funext args
    congr 3
    funext e u' w'
    cases e <;> simp [ih]
theorem hq43 {R : Ending → World → Prop} {d : Option Tmp} {v : Value} (hd : d ≠ some 4) (c : List PanicEntry) (a : Act) (w : World) (h : bodyPostD Try.prog Try.f75 R (.panic c) (a.put d v) w) : bodyPostD Try.prog Try.f75 R (.panic c) a w := by
  cases d with
  | none => exact h
  | some d =>
    have h4 : d ≠ 4 := fun e => hd (by rw [e])
    change Leaves _ _ (a.tmps.setIfInBounds d v) R a.defers (.panicking c) w at h
    change Leaves _ _ a.tmps R a.defers (.panicking c) w
    rwa [leaves_same (t2 := a.tmps)] at h
    simp [results, Try.results75, Array.getElem?_setIfInBounds, h4]
end Go.Proofs.Ytckdkbjobipniaa

/- The source: a message read. Printed by gen/coderm.py. -/
set_option linter.unusedVariables false
set_option linter.unusedSimpArgs false
namespace Go.Proofs.Ytckdkbjobipniaa
open Go.RowKit Go.Proofs.YtckdkbjobipniaaW.PrintWords Go.Proofs.YtckdkbjobipniaaW.PrintLast
theorem ptr3_at (pm k : Nat) (h : k < 3) : (#[.pointer (some ⟨pm, 0, none⟩), .pointer (some ⟨pm, 1, none⟩), .pointer (some ⟨pm, 2, none⟩)] : Array Value)[k]? = some (.pointer (some ⟨pm, k, none⟩)) := by
  match k, h with
  | 0, _ => rfl
  | 1, _ => rfl
  | 2, _ => rfl
def intsV (l : List Int) : List Value := l.map (Value.int .i64)
theorem intsV_len (l : List Int) : (intsV l).length = l.length := by simp [intsV]
theorem intsV_snoc (l : List Int) (x : Int) : intsV (l ++ [x]) = intsV l ++ [.int .i64 x] := by simp [intsV]
/-- A message's lists, owned. -/
def listsP (n : List Int) (u p : List Mut) (r : List Rw) (s1 s2 s3 s4 : Hdr) : HP :=
  crow 1 3 s1.1 s1.2.1 s1.2.2 (n.flatMap intC) * (crow 4 135 s2.1 s2.2.1 s2.2.2 (u.flatMap mutC) * (crow 4 143 s3.1 s3.2.1 s3.2.2 (p.flatMap mutC) * crow 5 145 s4.1 s4.2.1 s4.2.2 (r.flatMap rowC)))
structure HdrsOf (m : Msg) (s1 s2 s3 s4 : Hdr) : Prop where
  l1 : s1.2.1 = m.nodes.length ∧ s1.2.1 ≤ 1024
  l2 : s2.2.1 = m.muts.length ∧ s2.2.1 ≤ 1024
  l3 : s3.2.1 = m.pre.length ∧ s3.2.1 ≤ 1024
  l4 : s4.2.1 = m.rows.length ∧ s4.2.1 ≤ 1024
abbrev msgCells (m : Msg) (s1 s2 s3 s4 : Hdr) : Array Value := #[.int .i64 m.kind, .int .i64 m.src, .int .i64 m.dst, .int .i64 m.id, .int .i64 m.rev, .int .i64 m.epoch, .int .i64 m.slot, .bool m.flag, .slice s1.1 s1.2.1 s1.2.2, .slice s2.1 s2.2.1 s2.2.2, .slice s3.1 s3.2.1 s3.2.2, .slice s4.1 s4.2.1 s4.2.2]
theorem mcells_full (l : List Int) (h : l.length = 7) (f : Bool) (n : List Int) (u p : List Mut) (r : List Rw) (s1 s2 s3 s4 : Hdr) : mcells (intsV l ++ [.bool f] ++ [.slice s1.1 s1.2.1 s1.2.2] ++ [.slice s2.1 s2.2.1 s2.2.2] ++ [.slice s3.1 s3.2.1 s3.2.2] ++ [.slice s4.1 s4.2.1 s4.2.2]) = msgCells (mkMsg l f n u p r) s1 s2 s3 s4 := by
  match l, h with
  | [a, b, c, d, e, g, i], _ => rfl
set_option maxHeartbeats 12800000 in
set_option maxRecDepth 100000 in
theorem rmessage_ok {w0 w : World} {F : HP} {p pm : Nat} {xs : List Int} (h : Hw w0 w (srcP w0 p xs * (blk pm (.cells (mcells []) 27) * F))) :
    Calls Try.prog 75 #[.pointer (some ⟨p, 0, none⟩), .pointer (some ⟨pm, 0, none⟩)] w fun e w' =>
      (∃ m ys s1 s2 s3 s4, rMsg xs = .ok (m, ys) ∧ HdrsOf m s1 s2 s3 s4 ∧ e = .returned (.int .i64 0) ∧ Hw w0 w' (srcP w0 p ys * (blk pm (.cells (msgCells m s1 s2 s3 s4) 27) * (listsP m.nodes m.muts m.pre m.rows s1 s2 s3 s4 * F)))) ∨
      (∃ c, rMsg xs = .error c ∧ c ≠ 0 ∧ e = .returned (.int .i64 c) ∧ Hw w0 w' F) := by
  have hmf : ∀ (fn : Fn) (first cap : Array Value) (w : World), (Instr.makeFunc fn first cap).run Try.prog w = .ok (.func fn first cap) w := fun _ _ _ _ => rfl
  have R0 := Aside0.mk (show rMsg xs = (rMany rInt 7 xs).bind fun l' vs => rRest ([] ++ l') vs from rfl)
  have H1 := Aside0.mk ((((h.alloc (.cells #[.pointer (some ⟨p, 0, none⟩)] 146)).alloc (.cells #[.int .i64 0] 30)).alloc (.cells #[.pointer (some ⟨pm, 0, none⟩), .pointer (some ⟨pm, 1, none⟩), .pointer (some ⟨pm, 2, none⟩)] 203)).drew)
  simp only [World.size_alloc] at H1
  clear h
  go_enter_defers Try.func75, Try.ntmps75
  go_wp2_with fail
  refine start_ (n := 12) (S := fun w' => True) (ds := []) #[false, false, false, false, false, false, false, false, false, false, false, false] (by kernel_rfl) rfl rfl trivial (fun hHeld => ?_)
  refine pure_ (i := 0) (N := some 7) (v := ?_) (a' := ?_) #[true, false, false, false, false, false, false, false, false, false, false, false] rfl rfl (by kernel_rfl) (hq43 (by decide)) (Or.inl ⟨by rfl, ?_⟩) ?_ ?_
  rotate_left
  · intro w'
    go_simp
    with_reducible rfl
  rotate_left
  · simp only [Act.put, List.setIfInBounds_toArray, List.set_cons_zero, List.set_cons_succ, i64_w, i32_w]
    rfl
  refine pure_ (i := 1) (N := some 8) (v := ?_) (a' := ?_) #[true, true, false, false, false, false, false, false, false, false, false, false] rfl rfl (by kernel_rfl) (hq43 (by decide)) (Or.inl ⟨by rfl, ?_⟩) ?_ ?_
  rotate_left
  · intro w'
    go_simp
    with_reducible rfl
  rotate_left
  · simp only [Act.put, List.setIfInBounds_toArray, List.set_cons_zero, List.set_cons_succ, i64_w, i32_w]
    rfl
  refine pure_ (i := 2) (N := some 9) (v := ?_) (a' := ?_) #[true, true, true, false, false, false, false, false, false, false, false, false] rfl rfl (by kernel_rfl) (hq43 (by decide)) (Or.inl ⟨by rfl, ?_⟩) ?_ ?_
  rotate_left
  · intro w'
    go_simp
    with_reducible rfl
  rotate_left
  · simp only [Act.put, List.setIfInBounds_toArray, List.set_cons_zero, List.set_cons_succ, i64_w, i32_w]
    rfl
  refine pure_ (i := 3) (N := some 10) (v := ?_) (a' := ?_) #[true, true, true, true, false, false, false, false, false, false, false, false] rfl rfl (by kernel_rfl) (hq43 (by decide)) (Or.inl ⟨by rfl, ?_⟩) ?_ ?_
  rotate_left
  · intro w'
    go_simp
    with_reducible rfl
  rotate_left
  · simp only [Act.put, List.setIfInBounds_toArray, List.set_cons_zero, List.set_cons_succ, i64_w, i32_w]
    rfl
  refine pure_ (i := 4) (N := some 11) (v := ?_) (a' := ?_) #[true, true, true, true, true, false, false, false, false, false, false, false] rfl rfl (by kernel_rfl) (hq43 (by decide)) (Or.inl ⟨by rfl, ?_⟩) ?_ ?_
  rotate_left
  · intro w'
    go_simp
    with_reducible rfl
  rotate_left
  · simp only [Act.put, List.setIfInBounds_toArray, List.set_cons_zero, List.set_cons_succ, i64_w, i32_w]
    rfl
  refine pure_ (i := 5) (N := some 12) (v := ?_) (a' := ?_) #[true, true, true, true, true, true, false, false, false, false, false, false] rfl rfl (by kernel_rfl) (hq43 (by decide)) (Or.inl ⟨by rfl, ?_⟩) ?_ ?_
  rotate_left
  · intro w'
    go_simp
    with_reducible rfl
  rotate_left
  · simp only [Act.put, List.setIfInBounds_toArray, List.set_cons_zero, List.set_cons_succ, i64_w, i32_w]
    rfl
  refine pure_ (i := 6) (N := some 13) (v := ?_) (a' := ?_) #[true, true, true, true, true, true, true, false, false, false, false, false] rfl rfl (by kernel_rfl) (hq43 (by decide)) (Or.inl ⟨by rfl, ?_⟩) ?_ ?_
  rotate_left
  · intro w'
    go_simp
    with_reducible rfl
  rotate_left
  · simp only [Act.put, List.setIfInBounds_toArray, List.set_cons_zero, List.set_cons_succ, i64_w, i32_w]
    rfl
  refine pure_ (i := 7) (N := some 14) (v := ?_) (a' := ?_) #[true, true, true, true, true, true, true, true, false, false, false, false] rfl rfl (by kernel_rfl) (hq43 (by decide)) (Or.inl ⟨by rfl, ?_⟩) ?_ ?_
  rotate_left
  · intro w'
    go_simp
    with_reducible rfl
  rotate_left
  · simp only [Act.put, List.setIfInBounds_toArray, List.set_cons_zero, List.set_cons_succ, i64_w, i32_w]
    rfl
  refine pure_ (i := 8) (N := some 15) (v := ?_) (a' := ?_) #[true, true, true, true, true, true, true, true, true, false, false, false] rfl rfl (by kernel_rfl) (hq43 (by decide)) (Or.inl ⟨by rfl, ?_⟩) ?_ ?_
  rotate_left
  · intro w'
    go_simp
    with_reducible rfl
  rotate_left
  · simp only [Act.put, List.setIfInBounds_toArray, List.set_cons_zero, List.set_cons_succ, i64_w, i32_w]
    rfl
  refine pure_ (i := 11) (N := some 18) (v := ?_) (a' := ?_) #[true, true, true, true, true, true, true, true, true, false, false, true] rfl rfl (by kernel_rfl) (hq43 (by decide)) (Or.inl ⟨by rfl, ?_⟩) ?_ ?_
  rotate_left
  · intro w'
    go_simp
    with_reducible rfl
  rotate_left
  · simp only [Act.put, List.setIfInBounds_toArray, List.set_cons_zero, List.set_cons_succ, i64_w, i32_w]
    rfl
  refine one_ (i := 9) (N := some 16) #[true, true, true, true, true, true, true, true, true, true, false, true] rfl rfl (by kernel_rfl) (by decide) (fun K hK => ?_)
  refine value_ (w1 := ?_) (v := ?_) (by rfl) rfl ?_ ?_
  rotate_left 2
  · go_simp
    constructor
    · rfl
    · rfl
  refine hK.out _ _ trivial (fun hHeld => ?_)
  clear hK K
  refine norm_ (a' := ?_) ?_ ?_
  rotate_left
  · show Act.put _ (some 16) _ = _
    simp only [Act.put, List.setIfInBounds_toArray, List.set_cons_zero, List.set_cons_succ, i64_w, i32_w]
    rfl
  refine pure_ (i := 10) (N := some 17) (v := ?_) (a' := ?_) #[true, true, true, true, true, true, true, true, true, true, true, true] rfl rfl (by kernel_rfl) (hq43 (by decide)) (Or.inl ⟨by rfl, ?_⟩) ?_ ?_
  rotate_left
  · intro w'
    go_simp
    with_reducible rfl
  rotate_left
  · simp only [Act.put, List.setIfInBounds_toArray, List.set_cons_zero, List.set_cons_succ, i64_w, i32_w]
    rfl
  refine done_ (by kernel_rfl) ?_
  clear hHeld
  go_wp2_with fail
  obtain ⟨q, hq⟩ : ∃ q, q = w.heap.size := ⟨_, rfl⟩
  have G0 := Aside0.mk (H1.out.as (Q := srcP w0 p xs * (blk pm (.cells (mcells (intsV [])) 27) * (scapP w.heap.size p * (blk (w.heap.size + 1) (.cells #[.int .i64 0] 30) * (blk (w.heap.size + 1 + 1) (.cells #[.pointer (some ⟨pm, 0, none⟩), .pointer (some ⟨pm, 1, none⟩), .pointer (some ⟨pm, 2, none⟩)] 203) * F))))) (by unfold scapP; ac_rfl))
  rw [← hq] at G0 ⊢
  clear hq H1
  go_loopw [18] (fun i wr => ∃ (k : Nat) (l : List Int) (zs : List Int), k ≤ 3 ∧ i = .int .i64 k ∧ Aside0 (l.length = k) ∧ Aside0 (rMsg xs = (rMany rInt (7 - k) zs).bind fun l' vs => rRest (l ++ l') vs) ∧
    Aside0 (Hw w0 wr (srcP w0 p zs * (blk pm (.cells (mcells (intsV l)) 27) * (scapP q p * (blk (q + 1) (.cells #[.int .i64 0] 30) * (blk (q + 1 + 1) (.cells #[.pointer (some ⟨pm, 0, none⟩), .pointer (some ⟨pm, 1, none⟩), .pointer (some ⟨pm, 2, none⟩)] 203) * F))))))) (fun i _ => 3 - (intOf i).toNat)
  case atStart => exact ⟨0, [], xs, Nat.zero_le _, rfl, ⟨rfl⟩, R0, G0⟩
  case round =>
    obtain ⟨k, l, zs, hk, rfl, LL, RR, HW⟩ := hrel
    clear G0 R0
    by_cases hlt : k < 3
    · have RX := Aside0.mk (show rMsg xs = (rMany rInt (7 - (k + 1) + 1) zs).bind fun l' vs => rRest (l ++ l') vs by rw [show 7 - (k + 1) + 1 = 7 - k by omega]; exact RR.out)
      have k0 := HW.out.cellAt q 0 (v := .pointer (some ⟨p, 0, none⟩)) rfl
      have k1 := HW.out.cellAt (q + 1 + 1) k (v := .pointer (some ⟨pm, k, none⟩)) (ptr3_at pm k hlt)
      have O := Aside0.mk (rint_ok HW.out)
      clear RR HW
      go_wp2_with fail
      refine O.out.mono ?_
      rintro e w2 (⟨a, vs, hr, rfl, g⟩ | ⟨c, vs, hr, hc, rfl, g⟩)
      · have R2 := Aside0.mk (many_stepG RX.out hr)
        have H4 := Aside0.mk (g.atB pm)
        obtain ⟨v0, hv0⟩ := mcells_at (intsV l) k (by omega)
        have c0 := H4.out.cell hv0
        have cf := H4.out.unfrozen k
        have MS := Aside0.mk (mcells_set (intsV l) (.int .i64 a) k (by rw [intsV_len, LL.out]) (by omega))
        have H5 := Aside0.mk (H4.out.set k (.int .i64 a))
        clear g hr RX O hv0
        go_wp2_with fail
        go_roundw
        case rel => exact ⟨k + 1, l ++ [a], vs, by omega, by go_num, ⟨by rw [List.length_append, LL.out]; rfl⟩, R2, ⟨by rw [intsV_snoc, ← MS.out]; exact H5.out.as (HP.left_comm _ _ _)⟩⟩
        case measure => simp [intOf]; omega
      · have RE := Aside0.mk (many_errG RX.out hr)
        have HX := Aside0.mk (g.atB (q + 1))
        have k2 := HX.out.cell (i := 0) (v := .int .i64 0) rfl
        have zf := HX.out.unfrozen 0
        have l2 := HX.out.lt
        refine leaves_cons (f := 99) (args := #[.pointer (some ⟨q + 1, 0, none⟩)]) (by simp) (by simp [go_sem]) ?_
        refine (caught_some (q + 1) _ c _ k2 zf l2).mono ?_
        rintro e u' w6 ⟨rfl, rfl, rfl⟩
        have HZ := Aside0.mk (((HX.out.alloc (.cells #[.int .i64 c] 225)).atB (q + 1)).set 0 (.int .i64 c))
        have z0 := HZ.out.cell (i := 0) (v := .int .i64 c) rfl
        exact ⟨.int .i64 c, by simp [results, Try.results75, go_sem, z0], .inr ⟨c, RE.out, hc, rfl, HZ.out.only F⟩⟩
    · have hk2 : k = 3 := by omega
      subst hk2
      have RX := Aside0.mk (show rMsg xs = (rMany rInt (3 + 1) zs).bind fun l' vs => rRest (l ++ l') vs from RR.out)
      have O := Aside0.mk (rint_ok HW.out.drew)
      have k0 := HW.out.cellAt q 0 (v := .pointer (some ⟨p, 0, none⟩)) rfl
      clear RR HW hlt hk
      go_wp2_with fail
      refine start_ (n := 18) (S := fun w' => w'.cell? ⟨q, 0, none⟩ = some (.pointer (some ⟨p, 0, none⟩))) (ds := [11, 14, 17]) #[false, false, false, false, false, false, false, false, false, false, false, false, false, false, false, false, false, false] (by kernel_rfl) rfl rfl (k0) (fun hHeld => ?_)
      refine pure_ (i := 0) (N := some 27) (v := ?_) (a' := ?_) #[true, false, false, false, false, false, false, false, false, false, false, false, false, false, false, false, false, false] rfl rfl (by kernel_rfl) (hq43 (by decide)) (Or.inl ⟨by rfl, ?_⟩) ?_ ?_
      rotate_left
      · intro w'
        go_simp
        with_reducible rfl
      rotate_left
      · simp only [Act.put, List.setIfInBounds_toArray, List.set_cons_zero, List.set_cons_succ, i64_w, i32_w]
        rfl
      refine pure_ (i := 1) (N := some 28) (v := ?_) (a' := ?_) #[true, true, false, false, false, false, false, false, false, false, false, false, false, false, false, false, false, false] rfl rfl (by kernel_rfl) (hq43 (by decide)) (Or.inl ⟨by rfl, ?_⟩) ?_ ?_
      rotate_left
      · intro w'
        go_simp
        with_reducible rfl
      rotate_left
      · simp only [Act.put, List.setIfInBounds_toArray, List.set_cons_zero, List.set_cons_succ, i64_w, i32_w]
        rfl
      refine pure_ (i := 2) (N := some 29) (v := ?_) (a' := ?_) #[true, true, true, false, false, false, false, false, false, false, false, false, false, false, false, false, false, false] rfl rfl (by kernel_rfl) (hq43 (by decide)) (Or.inl ⟨by rfl, ?_⟩) ?_ ?_
      rotate_left
      · intro w'
        go_simp
        with_reducible rfl
      rotate_left
      · simp only [Act.put, List.setIfInBounds_toArray, List.set_cons_zero, List.set_cons_succ, i64_w, i32_w]
        rfl
      refine take_ (i := 3) (N := some 30) (v := ?_) (a' := ?_) #[true, true, true, true, false, false, false, false, false, false, false, false, false, false, false, false, false, false] rfl rfl (by kernel_rfl) (hq43 (by decide)) (Or.inl ⟨by rfl, ?_⟩) hHeld ?_ ?_
      rotate_left
      · intro w' s0
        go_simp
        with_reducible rfl
      rotate_left
      · simp only [Act.put, List.setIfInBounds_toArray, List.set_cons_zero, List.set_cons_succ, i64_w, i32_w]
        rfl
      refine take_ (i := 5) (N := some 32) (v := ?_) (a' := ?_) #[true, true, true, true, false, true, false, false, false, false, false, false, false, false, false, false, false, false] rfl rfl (by kernel_rfl) (hq43 (by decide)) (Or.inl ⟨by rfl, ?_⟩) hHeld ?_ ?_
      rotate_left
      · intro w' s0
        go_simp
        with_reducible rfl
      rotate_left
      · simp only [Act.put, List.setIfInBounds_toArray, List.set_cons_zero, List.set_cons_succ, i64_w, i32_w]
        rfl
      refine take_ (i := 7) (N := some 34) (v := ?_) (a' := ?_) #[true, true, true, true, false, true, false, true, false, false, false, false, false, false, false, false, false, false] rfl rfl (by kernel_rfl) (hq43 (by decide)) (Or.inl ⟨by rfl, ?_⟩) hHeld ?_ ?_
      rotate_left
      · intro w' s0
        go_simp
        with_reducible rfl
      rotate_left
      · simp only [Act.put, List.setIfInBounds_toArray, List.set_cons_zero, List.set_cons_succ, i64_w, i32_w]
        rfl
      refine one_ (i := 4) (N := some 31) #[true, true, true, true, true, true, false, true, false, false, false, false, false, false, false, false, false, false] rfl rfl (by kernel_rfl) (by decide) (fun K hK => ?_)
      refine goesP_ Try.func111 (by kernel_rfl) rfl #[.pointer (some ⟨p, 0, none⟩)] (by rfl) rfl rfl (by simp only [List.map_toArray, List.map_cons, List.map_nil]; rfl) ?_
      with_reducible refine (O.out).mono ?_
      rintro e w4 (⟨a3, vs4, hr, rfl, g⟩ | ⟨c, vs4, hr, hc, rfl, g⟩)
      rotate_left
      · refine .inr ⟨_, rfl, ?_⟩
        have RE := Aside0.mk (many_errG RX.out hr)
        have HX := Aside0.mk (g.atB (q + 1))
        have k2 := HX.out.cell (i := 0) (v := .int .i64 0) rfl
        have zf := HX.out.unfrozen 0
        have l2 := HX.out.lt
        refine leaves_cons (f := 99) (args := #[.pointer (some ⟨q + 1, 0, none⟩)]) (by simp) (by simp [go_sem]) ?_
        refine (caught_some (q + 1) _ c _ k2 zf l2).mono ?_
        rintro e u' w6 ⟨rfl, rfl, rfl⟩
        have HZ := Aside0.mk (((HX.out.alloc (.cells #[.int .i64 c] 225)).atB (q + 1)).set 0 (.int .i64 c))
        have z0 := HZ.out.cell (i := 0) (v := .int .i64 c) rfl
        exact ⟨.int .i64 c, by simp [results, Try.results75, go_sem, z0], .inr ⟨c, RE.out, hc, rfl, HZ.out.only F⟩⟩
      refine .inl ⟨_, rfl, ?_⟩
      have R4 := Aside0.mk (many_stepG RX.out hr)
      have y4 := g.cellAt q 0 (v := .pointer (some ⟨p, 0, none⟩)) rfl
      have O4 := Aside0.mk (rint_ok g)
      have G4 := Aside0.mk g
      clear g hr
      refine hK.out _ _ (y4) (fun hHeld => ?_)
      clear hK K
      refine norm_ (a' := ?_) ?_ ?_
      rotate_left
      · show Act.put _ (some 31) _ = _
        simp only [Act.put, List.setIfInBounds_toArray, List.set_cons_zero, List.set_cons_succ, i64_w, i32_w]
        rfl
      refine one_ (i := 6) (N := some 33) #[true, true, true, true, true, true, true, true, false, false, false, false, false, false, false, false, false, false] rfl rfl (by kernel_rfl) (by decide) (fun K hK => ?_)
      refine goesP_ Try.func111 (by kernel_rfl) rfl #[.pointer (some ⟨p, 0, none⟩)] (by rfl) rfl rfl (by simp only [List.map_toArray, List.map_cons, List.map_nil]; rfl) ?_
      with_reducible refine (O4.out).mono ?_
      rintro e w6 (⟨a4, vs6, hr, rfl, g⟩ | ⟨c, vs6, hr, hc, rfl, g⟩)
      rotate_left
      · refine .inr ⟨_, rfl, ?_⟩
        have RE := Aside0.mk (many_errG R4.out hr)
        have HX := Aside0.mk (g.atB (q + 1))
        have k2 := HX.out.cell (i := 0) (v := .int .i64 0) rfl
        have zf := HX.out.unfrozen 0
        have l2 := HX.out.lt
        refine leaves_cons (f := 99) (args := #[.pointer (some ⟨q + 1, 0, none⟩)]) (by simp) (by simp [go_sem]) ?_
        refine (caught_some (q + 1) _ c _ k2 zf l2).mono ?_
        rintro e u' w6 ⟨rfl, rfl, rfl⟩
        have HZ := Aside0.mk (((HX.out.alloc (.cells #[.int .i64 c] 225)).atB (q + 1)).set 0 (.int .i64 c))
        have z0 := HZ.out.cell (i := 0) (v := .int .i64 c) rfl
        exact ⟨.int .i64 c, by simp [results, Try.results75, go_sem, z0], .inr ⟨c, RE.out, hc, rfl, HZ.out.only F⟩⟩
      refine .inl ⟨_, rfl, ?_⟩
      have R6 := Aside0.mk (many_stepG R4.out hr)
      have y6 := g.cellAt q 0 (v := .pointer (some ⟨p, 0, none⟩)) rfl
      have O6 := Aside0.mk (rint_ok g)
      clear g hr
      refine hK.out _ _ (y6) (fun hHeld => ?_)
      clear hK K
      refine norm_ (a' := ?_) ?_ ?_
      rotate_left
      · show Act.put _ (some 33) _ = _
        simp only [Act.put, List.setIfInBounds_toArray, List.set_cons_zero, List.set_cons_succ, i64_w, i32_w]
        rfl
      refine one_ (i := 8) (N := some 35) #[true, true, true, true, true, true, true, true, true, false, false, false, false, false, false, false, false, false] rfl rfl (by kernel_rfl) (by decide) (fun K hK => ?_)
      refine goesP_ Try.func111 (by kernel_rfl) rfl #[.pointer (some ⟨p, 0, none⟩)] (by rfl) rfl rfl (by simp only [List.map_toArray, List.map_cons, List.map_nil]; rfl) ?_
      with_reducible refine (O6.out).mono ?_
      rintro e w8 (⟨a5, vs8, hr, rfl, g⟩ | ⟨c, vs8, hr, hc, rfl, g⟩)
      rotate_left
      · refine .inr ⟨_, rfl, ?_⟩
        have RE := Aside0.mk (many_errG R6.out hr)
        have HX := Aside0.mk (g.atB (q + 1))
        have k2 := HX.out.cell (i := 0) (v := .int .i64 0) rfl
        have zf := HX.out.unfrozen 0
        have l2 := HX.out.lt
        refine leaves_cons (f := 99) (args := #[.pointer (some ⟨q + 1, 0, none⟩)]) (by simp) (by simp [go_sem]) ?_
        refine (caught_some (q + 1) _ c _ k2 zf l2).mono ?_
        rintro e u' w6 ⟨rfl, rfl, rfl⟩
        have HZ := Aside0.mk (((HX.out.alloc (.cells #[.int .i64 c] 225)).atB (q + 1)).set 0 (.int .i64 c))
        have z0 := HZ.out.cell (i := 0) (v := .int .i64 c) rfl
        exact ⟨.int .i64 c, by simp [results, Try.results75, go_sem, z0], .inr ⟨c, RE.out, hc, rfl, HZ.out.only F⟩⟩
      refine .inl ⟨_, rfl, ?_⟩
      have R8 := Aside0.mk (many_stepG R6.out hr)
      have y8 := g.cellAt q 0 (v := .pointer (some ⟨p, 0, none⟩)) rfl
      have G8 := Aside0.mk (g.atB pm)
      obtain ⟨v3, hv3⟩ := mcells_at (intsV l) 3 (by decide)
      obtain ⟨v4, hv4⟩ := mcells_at (intsV l) 4 (by decide)
      obtain ⟨v5, hv5⟩ := mcells_at (intsV l) 5 (by decide)
      have m3 := G8.out.cell hv3
      have m4 := G8.out.cell hv4
      have m5 := G8.out.cell hv5
      have mf := G8.out.unfrozen
      clear g hr hv3 hv4 hv5
      refine hK.out _ _ (y8) (fun hHeld => ?_)
      clear hK K
      refine norm_ (a' := ?_) ?_ ?_
      rotate_left
      · show Act.put _ (some 35) _ = _
        simp only [Act.put, List.setIfInBounds_toArray, List.set_cons_zero, List.set_cons_succ, i64_w, i32_w]
        rfl
      refine pure_ (i := 9) (N := some 36) (v := ?_) (a' := ?_) #[true, true, true, true, true, true, true, true, true, true, false, false, false, false, false, false, false, false] rfl rfl (by kernel_rfl) (hq43 (by decide)) (Or.inl ⟨by rfl, ?_⟩) ?_ ?_
      rotate_left
      · intro w'
        go_simp
        with_reducible rfl
      rotate_left
      · simp only [Act.put, List.setIfInBounds_toArray, List.set_cons_zero, List.set_cons_succ, i64_w, i32_w]
        rfl
      refine pure_ (i := 10) (N := some 37) (v := ?_) (a' := ?_) #[true, true, true, true, true, true, true, true, true, true, true, false, false, false, false, false, false, false] rfl rfl (by kernel_rfl) (hq43 (by decide)) (Or.inl ⟨by rfl, ?_⟩) ?_ ?_
      rotate_left
      · intro w'
        go_simp
        with_reducible rfl
      rotate_left
      · simp only [Act.put, List.setIfInBounds_toArray, List.set_cons_zero, List.set_cons_succ, i64_w, i32_w]
        rfl
      refine last_ (i := 11) (N := none) #[true, true, true, true, true, true, true, true, true, true, true, true, false, false, false, false, false, false] rfl rfl (by kernel_rfl) (by decide) (fun K hK => ?_)
      refine skip_ (w1 := ?_) (by rfl) rfl ?_ ?_
      rotate_left
      · go_simp
        rfl
      refine hK.out _ _ ?_
      clear hK K
      refine pure_ (i := 12) (N := some 38) (v := ?_) (a' := ?_) #[true, true, true, true, true, true, true, true, true, true, true, true, true, false, false, false, false, false] rfl rfl (by kernel_rfl) (hq43 (by decide)) (Or.inl ⟨by rfl, ?_⟩) ?_ ?_
      rotate_left
      · intro w'
        go_simp
        with_reducible rfl
      rotate_left
      · simp only [Act.put, List.setIfInBounds_toArray, List.set_cons_zero, List.set_cons_succ, i64_w, i32_w]
        rfl
      refine pure_ (i := 13) (N := some 39) (v := ?_) (a' := ?_) #[true, true, true, true, true, true, true, true, true, true, true, true, true, true, false, false, false, false] rfl rfl (by kernel_rfl) (hq43 (by decide)) (Or.inl ⟨by rfl, ?_⟩) ?_ ?_
      rotate_left
      · intro w'
        go_simp
        with_reducible rfl
      rotate_left
      · simp only [Act.put, List.setIfInBounds_toArray, List.set_cons_zero, List.set_cons_succ, i64_w, i32_w]
        rfl
      refine last_ (i := 14) (N := none) #[true, true, true, true, true, true, true, true, true, true, true, true, true, true, true, false, false, false] rfl rfl (by kernel_rfl) (by decide) (fun K hK => ?_)
      refine skip_ (w1 := ?_) (by rfl) rfl ?_ ?_
      rotate_left
      · go_simp
        rfl
      refine hK.out _ _ ?_
      clear hK K
      refine pure_ (i := 15) (N := some 40) (v := ?_) (a' := ?_) #[true, true, true, true, true, true, true, true, true, true, true, true, true, true, true, true, false, false] rfl rfl (by kernel_rfl) (hq43 (by decide)) (Or.inl ⟨by rfl, ?_⟩) ?_ ?_
      rotate_left
      · intro w'
        go_simp
        with_reducible rfl
      rotate_left
      · simp only [Act.put, List.setIfInBounds_toArray, List.set_cons_zero, List.set_cons_succ, i64_w, i32_w]
        rfl
      refine pure_ (i := 16) (N := some 41) (v := ?_) (a' := ?_) #[true, true, true, true, true, true, true, true, true, true, true, true, true, true, true, true, true, false] rfl rfl (by kernel_rfl) (hq43 (by decide)) (Or.inl ⟨by rfl, ?_⟩) ?_ ?_
      rotate_left
      · intro w'
        go_simp
        with_reducible rfl
      rotate_left
      · simp only [Act.put, List.setIfInBounds_toArray, List.set_cons_zero, List.set_cons_succ, i64_w, i32_w]
        rfl
      refine last_ (i := 17) (N := none) #[true, true, true, true, true, true, true, true, true, true, true, true, true, true, true, true, true, true] rfl rfl (by kernel_rfl) (by decide) (fun K hK => ?_)
      refine skip_ (w1 := ?_) (by rfl) rfl ?_ ?_
      rotate_left
      · go_simp
        rfl
      refine hK.out _ _ ?_
      clear hK K
      refine done_ (by kernel_rfl) ?_
      clear hHeld m3 m4 m5 mf k0
      have M3 := mcells_set (intsV l) (.int .i64 a3) 3 (by rw [intsV_len, LL.out]) (by decide)
      have M4 := mcells_set (intsV (l ++ [a3])) (.int .i64 a4) 4 (by rw [intsV_len, List.length_append, LL.out]; rfl) (by decide)
      have M5 := mcells_set (intsV (l ++ [a3] ++ [a4])) (.int .i64 a5) 5 (by rw [intsV_len, List.length_append, List.length_append, LL.out]; rfl) (by decide)
      rw [← intsV_snoc] at M3 M4 M5
      have HB := ((G8.out.set 3 (.int .i64 a3)).set 4 (.int .i64 a4)).set 5 (.int .i64 a5)
      rw [M3, M4, M5] at HB
      obtain ⟨l6, hl6⟩ : ∃ l6, l6 = l ++ [a3] ++ [a4] ++ [a5] := ⟨_, rfl⟩
      have L6 := Aside0.mk (show l6.length = 6 by rw [hl6]; simp [LL.out])
      have R9 := R8.out
      rw [← hl6] at HB R9
      have RX2 := Aside0.mk R9
      have HC := Aside0.mk (HB.as (Q := srcP w0 p vs8 * (blk pm (.cells (mcells (intsV l6)) 27) * (scapP q p * (blk (q + 1) (.cells #[.int .i64 0] 30) * (blk (q + 1 + 1) (.cells #[.pointer (some ⟨pm, 0, none⟩), .pointer (some ⟨pm, 1, none⟩), .pointer (some ⟨pm, 2, none⟩)] 203) * F))))) (by ac_rfl))
      clear M3 M4 M5 HB R9 hl6 G8 R4 R6 R8 RX LL O O4 O6 G4
      go_wp2_with fail
      have k0 := HC.out.cellAt q 0 (v := .pointer (some ⟨p, 0, none⟩)) rfl
      have O := Aside0.mk (rint_ok HC.out.drew)
      refine start_ (n := 12) (S := fun w' => w'.cell? ⟨q, 0, none⟩ = some (.pointer (some ⟨p, 0, none⟩))) (ds := [8, 11]) #[false, false, false, false, false, false, false, false, false, false, false, false] (by kernel_rfl) rfl rfl (k0) (fun hHeld => ?_)
      refine pure_ (i := 0) (N := some 42) (v := ?_) (a' := ?_) #[true, false, false, false, false, false, false, false, false, false, false, false] rfl rfl (by kernel_rfl) (hq43 (by decide)) (Or.inl ⟨by rfl, ?_⟩) ?_ ?_
      rotate_left
      · intro w'
        go_simp
        with_reducible rfl
      rotate_left
      · simp only [Act.put, List.setIfInBounds_toArray, List.set_cons_zero, List.set_cons_succ, i64_w, i32_w]
        rfl
      refine pure_ (i := 1) (N := some 43) (v := ?_) (a' := ?_) #[true, true, false, false, false, false, false, false, false, false, false, false] rfl rfl (by kernel_rfl) (hq43 (by decide)) (Or.inl ⟨by rfl, ?_⟩) ?_ ?_
      rotate_left
      · intro w'
        go_simp
        with_reducible rfl
      rotate_left
      · simp only [Act.put, List.setIfInBounds_toArray, List.set_cons_zero, List.set_cons_succ, i64_w, i32_w]
        rfl
      refine take_ (i := 2) (N := some 44) (v := ?_) (a' := ?_) #[true, true, true, false, false, false, false, false, false, false, false, false] rfl rfl (by kernel_rfl) (hq43 (by decide)) (Or.inl ⟨by rfl, ?_⟩) hHeld ?_ ?_
      rotate_left
      · intro w' s0
        go_simp
        with_reducible rfl
      rotate_left
      · simp only [Act.put, List.setIfInBounds_toArray, List.set_cons_zero, List.set_cons_succ, i64_w, i32_w]
        rfl
      refine take_ (i := 4) (N := some 46) (v := ?_) (a' := ?_) #[true, true, true, false, true, false, false, false, false, false, false, false] rfl rfl (by kernel_rfl) (hq43 (by decide)) (Or.inl ⟨by rfl, ?_⟩) hHeld ?_ ?_
      rotate_left
      · intro w' s0
        go_simp
        with_reducible rfl
      rotate_left
      · simp only [Act.put, List.setIfInBounds_toArray, List.set_cons_zero, List.set_cons_succ, i64_w, i32_w]
        rfl
      refine one_ (i := 3) (N := some 45) #[true, true, true, true, true, false, false, false, false, false, false, false] rfl rfl (by kernel_rfl) (by decide) (fun K hK => ?_)
      refine goesP_ Try.func111 (by kernel_rfl) rfl #[.pointer (some ⟨p, 0, none⟩)] (by rfl) rfl rfl (by simp only [List.map_toArray, List.map_cons, List.map_nil]; rfl) ?_
      with_reducible refine (O.out).mono ?_
      rintro e w3 (⟨a6, vs3, hr, rfl, g⟩ | ⟨c, vs3, hr, hc, rfl, g⟩)
      rotate_left
      · refine .inr ⟨_, rfl, ?_⟩
        have RE := Aside0.mk (many_errG RX2.out hr)
        have HX := Aside0.mk (g.atB (q + 1))
        have k2 := HX.out.cell (i := 0) (v := .int .i64 0) rfl
        have zf := HX.out.unfrozen 0
        have l2 := HX.out.lt
        refine leaves_cons (f := 99) (args := #[.pointer (some ⟨q + 1, 0, none⟩)]) (by simp) (by simp [go_sem]) ?_
        refine (caught_some (q + 1) _ c _ k2 zf l2).mono ?_
        rintro e u' w6 ⟨rfl, rfl, rfl⟩
        have HZ := Aside0.mk (((HX.out.alloc (.cells #[.int .i64 c] 225)).atB (q + 1)).set 0 (.int .i64 c))
        have z0 := HZ.out.cell (i := 0) (v := .int .i64 c) rfl
        exact ⟨.int .i64 c, by simp [results, Try.results75, go_sem, z0], .inr ⟨c, RE.out, hc, rfl, HZ.out.only F⟩⟩
      refine .inl ⟨_, rfl, ?_⟩
      have R3 := Aside0.mk (show rMsg xs = rRest (l6 ++ [a6]) vs3 from (many_stepG (k := 0) RX2.out hr).trans (by show rRest (l6 ++ [a6] ++ []) vs3 = _; rw [List.append_nil]))
      have y3 := g.cellAt q 0 (v := .pointer (some ⟨p, 0, none⟩)) rfl
      have O3 := Aside0.mk (rflag_ok g)
      clear g hr
      refine hK.out _ _ (y3) (fun hHeld => ?_)
      clear hK K
      refine norm_ (a' := ?_) ?_ ?_
      rotate_left
      · show Act.put _ (some 45) _ = _
        simp only [Act.put, List.setIfInBounds_toArray, List.set_cons_zero, List.set_cons_succ, i64_w, i32_w]
        rfl
      refine one_ (i := 5) (N := some 47) #[true, true, true, true, true, true, false, false, false, false, false, false] rfl rfl (by kernel_rfl) (by decide) (fun K hK => ?_)
      refine goesP_ Try.func112 (by kernel_rfl) rfl #[.pointer (some ⟨p, 0, none⟩)] (by rfl) rfl rfl (by simp only [List.map_toArray, List.map_cons, List.map_nil]; rfl) ?_
      with_reducible refine (O3.out).mono ?_
      rintro e w5 (⟨a7, vs5, hr, rfl, g⟩ | ⟨c, vs5, hr, hc, rfl, g⟩)
      rotate_left
      · refine .inr ⟨_, rfl, ?_⟩
        have RE := Aside0.mk (R3.out.trans (Rd.bind_err hr _))
        have HX := Aside0.mk (g.atB (q + 1))
        have k2 := HX.out.cell (i := 0) (v := .int .i64 0) rfl
        have zf := HX.out.unfrozen 0
        have l2 := HX.out.lt
        refine leaves_cons (f := 99) (args := #[.pointer (some ⟨q + 1, 0, none⟩)]) (by simp) (by simp [go_sem]) ?_
        refine (caught_some (q + 1) _ c _ k2 zf l2).mono ?_
        rintro e u' w6 ⟨rfl, rfl, rfl⟩
        have HZ := Aside0.mk (((HX.out.alloc (.cells #[.int .i64 c] 225)).atB (q + 1)).set 0 (.int .i64 c))
        have z0 := HZ.out.cell (i := 0) (v := .int .i64 c) rfl
        exact ⟨.int .i64 c, by simp [results, Try.results75, go_sem, z0], .inr ⟨c, RE.out, hc, rfl, HZ.out.only F⟩⟩
      refine .inl ⟨_, rfl, ?_⟩
      have R7 := Aside0.mk (R3.out.trans (Rd.bind_ok hr _))
      have y5 := g.cellAt q 0 (v := .pointer (some ⟨p, 0, none⟩)) rfl
      have G7 := Aside0.mk (g.atB pm)
      obtain ⟨v6, hv6⟩ := mcells_at (intsV l6) 6 (by decide)
      obtain ⟨v7, hv7⟩ := mcells_at (intsV l6) 7 (by decide)
      have m6 := G7.out.cell hv6
      have m7 := G7.out.cell hv7
      have mf := G7.out.unfrozen
      clear g hr hv6 hv7
      refine hK.out _ _ (y5) (fun hHeld => ?_)
      clear hK K
      refine norm_ (a' := ?_) ?_ ?_
      rotate_left
      · show Act.put _ (some 47) _ = _
        simp only [Act.put, List.setIfInBounds_toArray, List.set_cons_zero, List.set_cons_succ, i64_w, i32_w]
        rfl
      refine pure_ (i := 6) (N := some 48) (v := ?_) (a' := ?_) #[true, true, true, true, true, true, true, false, false, false, false, false] rfl rfl (by kernel_rfl) (hq43 (by decide)) (Or.inl ⟨by rfl, ?_⟩) ?_ ?_
      rotate_left
      · intro w'
        go_simp
        with_reducible rfl
      rotate_left
      · simp only [Act.put, List.setIfInBounds_toArray, List.set_cons_zero, List.set_cons_succ, i64_w, i32_w]
        rfl
      refine pure_ (i := 7) (N := some 49) (v := ?_) (a' := ?_) #[true, true, true, true, true, true, true, true, false, false, false, false] rfl rfl (by kernel_rfl) (hq43 (by decide)) (Or.inl ⟨by rfl, ?_⟩) ?_ ?_
      rotate_left
      · intro w'
        go_simp
        with_reducible rfl
      rotate_left
      · simp only [Act.put, List.setIfInBounds_toArray, List.set_cons_zero, List.set_cons_succ, i64_w, i32_w]
        rfl
      refine last_ (i := 8) (N := none) #[true, true, true, true, true, true, true, true, true, false, false, false] rfl rfl (by kernel_rfl) (by decide) (fun K hK => ?_)
      refine skip_ (w1 := ?_) (by rfl) rfl ?_ ?_
      rotate_left
      · go_simp
        rfl
      refine hK.out _ _ ?_
      clear hK K
      refine pure_ (i := 9) (N := some 50) (v := ?_) (a' := ?_) #[true, true, true, true, true, true, true, true, true, true, false, false] rfl rfl (by kernel_rfl) (hq43 (by decide)) (Or.inl ⟨by rfl, ?_⟩) ?_ ?_
      rotate_left
      · intro w'
        go_simp
        with_reducible rfl
      rotate_left
      · simp only [Act.put, List.setIfInBounds_toArray, List.set_cons_zero, List.set_cons_succ, i64_w, i32_w]
        rfl
      refine pure_ (i := 10) (N := some 51) (v := ?_) (a' := ?_) #[true, true, true, true, true, true, true, true, true, true, true, false] rfl rfl (by kernel_rfl) (hq43 (by decide)) (Or.inl ⟨by rfl, ?_⟩) ?_ ?_
      rotate_left
      · intro w'
        go_simp
        with_reducible rfl
      rotate_left
      · simp only [Act.put, List.setIfInBounds_toArray, List.set_cons_zero, List.set_cons_succ, i64_w, i32_w]
        rfl
      refine last_ (i := 11) (N := none) #[true, true, true, true, true, true, true, true, true, true, true, true] rfl rfl (by kernel_rfl) (by decide) (fun K hK => ?_)
      refine skip_ (w1 := ?_) (by rfl) rfl ?_ ?_
      rotate_left
      · go_simp
        rfl
      refine hK.out _ _ ?_
      clear hK K
      refine done_ (by kernel_rfl) ?_
      clear hHeld m6 m7 mf k0
      have M6 := mcells_set (intsV l6) (.int .i64 a6) 6 (by rw [intsV_len, L6.out]) (by decide)
      have M7 := mcells_set (intsV (l6 ++ [a6])) (.bool a7) 7 (by rw [intsV_len, List.length_append, L6.out]; rfl) (by decide)
      rw [← intsV_snoc] at M6
      have HB := (G7.out.set 6 (.int .i64 a6)).set 7 (.bool a7)
      rw [M6, M7] at HB
      obtain ⟨l7, hl7⟩ : ∃ l7, l7 = l6 ++ [a6] := ⟨_, rfl⟩
      have L7 := Aside0.mk (show l7.length = 7 by rw [hl7]; simp [L6.out])
      have R9 := R7.out
      rw [← hl7] at HB R9
      have RY := Aside0.mk R9
      have HD := Aside0.mk (HB.as (Q := srcP w0 p vs5 * (scapP q p * (blk pm (.cells (mcells (intsV l7 ++ [.bool a7])) 27) * (blk (q + 1) (.cells #[.int .i64 0] 30) * (blk (q + 1 + 1) (.cells #[.pointer (some ⟨pm, 0, none⟩), .pointer (some ⟨pm, 1, none⟩), .pointer (some ⟨pm, 2, none⟩)] 203) * F))))) (by ac_rfl))
      clear M6 M7 HB R9 hl7 G7 R7 R3 RX2 HC L6 O O3
      go_wp2_with fail
      clear y5
      refine (rlist1_ok HD.out).mono ?_
      rintro e wl1 (⟨n1, zs1, A1, m1, c1, hr, hl, hb, rfl, g⟩ | ⟨c, zs1, hr, hc, rfl, g⟩)
      · have R1L := Aside0.mk (RY.out.trans (Rd.bind_ok hr _))
        have L1L := Aside0.mk (And.intro hl hb)
        have y1 := g.cellAt q 0 (v := .pointer (some ⟨p, 0, none⟩)) rfl
        have P1 := Aside0.mk (g.atB pm)
        obtain ⟨v1, hv1⟩ := mcells_at (intsV l7 ++ [.bool a7]) 8 (by decide)
        have mm := P1.out.cell hv1
        have mf := P1.out.unfrozen 8
        have MS := mcells_set (intsV l7 ++ [.bool a7]) (.slice A1 m1 c1) 8 (by simp [intsV_len, L7.out]) (by decide)
        have HB := P1.out.set 8 (.slice A1 m1 c1)
        rw [MS] at HB
        have K1 := Aside0.mk (HB.as (Q := srcP w0 p zs1 * (scapP q p * (blk pm (.cells (mcells (intsV l7 ++ [.bool a7] ++ [.slice A1 m1 c1])) 27) * (crow 1 3 A1 m1 c1 (n1.flatMap intC) * (blk (q + 1) (.cells #[.int .i64 0] 30) * (blk (q + 1 + 1) (.cells #[.pointer (some ⟨pm, 0, none⟩), .pointer (some ⟨pm, 1, none⟩), .pointer (some ⟨pm, 2, none⟩)] 203) * F)))))) (by ac_rfl))
        clear g hr hl hb MS HB hv1 HD RY
        go_wp2_with fail
        clear y1 mm mf P1
        refine (rlist2_ok K1.out).mono ?_
        rintro e wl2 (⟨n2, zs2, A2, m2, c2, hr, hl, hb, rfl, g⟩ | ⟨c, zs2, hr, hc, rfl, g⟩)
        · have R2L := Aside0.mk (R1L.out.trans (Rd.bind_ok hr _))
          have L2L := Aside0.mk (And.intro hl hb)
          have y2 := g.cellAt q 0 (v := .pointer (some ⟨p, 0, none⟩)) rfl
          have P2 := Aside0.mk (g.atB pm)
          obtain ⟨v2, hv2⟩ := mcells_at (intsV l7 ++ [.bool a7] ++ [.slice A1 m1 c1]) 9 (by decide)
          have mm := P2.out.cell hv2
          have mf := P2.out.unfrozen 9
          have MS := mcells_set (intsV l7 ++ [.bool a7] ++ [.slice A1 m1 c1]) (.slice A2 m2 c2) 9 (by simp [intsV_len, L7.out]) (by decide)
          have HB := P2.out.set 9 (.slice A2 m2 c2)
          rw [MS] at HB
          have K2 := Aside0.mk (HB.as (Q := srcP w0 p zs2 * (scapP q p * (blk pm (.cells (mcells (intsV l7 ++ [.bool a7] ++ [.slice A1 m1 c1] ++ [.slice A2 m2 c2])) 27) * (crow 4 135 A2 m2 c2 (n2.flatMap mutC) * (crow 1 3 A1 m1 c1 (n1.flatMap intC) * (blk (q + 1) (.cells #[.int .i64 0] 30) * (blk (q + 1 + 1) (.cells #[.pointer (some ⟨pm, 0, none⟩), .pointer (some ⟨pm, 1, none⟩), .pointer (some ⟨pm, 2, none⟩)] 203) * F))))))) (by ac_rfl))
          clear g hr hl hb MS HB hv2 K1 R1L
          go_wp2_with fail
          clear y2 mm mf P2
          refine (rlist3_ok K2.out).mono ?_
          rintro e wl3 (⟨n3, zs3, A3, m3, c3, hr, hl, hb, rfl, g⟩ | ⟨c, zs3, hr, hc, rfl, g⟩)
          · have R3L := Aside0.mk (R2L.out.trans (Rd.bind_ok hr _))
            have L3L := Aside0.mk (And.intro hl hb)
            have y3 := g.cellAt q 0 (v := .pointer (some ⟨p, 0, none⟩)) rfl
            have P3 := Aside0.mk (g.atB pm)
            obtain ⟨v3, hv3⟩ := mcells_at (intsV l7 ++ [.bool a7] ++ [.slice A1 m1 c1] ++ [.slice A2 m2 c2]) 10 (by decide)
            have mm := P3.out.cell hv3
            have mf := P3.out.unfrozen 10
            have MS := mcells_set (intsV l7 ++ [.bool a7] ++ [.slice A1 m1 c1] ++ [.slice A2 m2 c2]) (.slice A3 m3 c3) 10 (by simp [intsV_len, L7.out]) (by decide)
            have HB := P3.out.set 10 (.slice A3 m3 c3)
            rw [MS] at HB
            have K3 := Aside0.mk (HB.as (Q := srcP w0 p zs3 * (scapP q p * (blk pm (.cells (mcells (intsV l7 ++ [.bool a7] ++ [.slice A1 m1 c1] ++ [.slice A2 m2 c2] ++ [.slice A3 m3 c3])) 27) * (crow 4 143 A3 m3 c3 (n3.flatMap mutC) * (crow 4 135 A2 m2 c2 (n2.flatMap mutC) * (crow 1 3 A1 m1 c1 (n1.flatMap intC) * (blk (q + 1) (.cells #[.int .i64 0] 30) * (blk (q + 1 + 1) (.cells #[.pointer (some ⟨pm, 0, none⟩), .pointer (some ⟨pm, 1, none⟩), .pointer (some ⟨pm, 2, none⟩)] 203) * F)))))))) (by ac_rfl))
            clear g hr hl hb MS HB hv3 K2 R2L
            go_wp2_with fail
            clear y3 mm mf P3
            refine (rlist4_ok K3.out).mono ?_
            rintro e wl4 (⟨n4, zs4, A4, m4, c4, hr, hl, hb, rfl, g⟩ | ⟨c, zs4, hr, hc, rfl, g⟩)
            · have R4L := Aside0.mk (R3L.out.trans (Rd.bind_ok hr _))
              have L4L := Aside0.mk (And.intro hl hb)
              have y4 := g.cellAt q 0 (v := .pointer (some ⟨p, 0, none⟩)) rfl
              have P4 := Aside0.mk (g.atB pm)
              obtain ⟨v4, hv4⟩ := mcells_at (intsV l7 ++ [.bool a7] ++ [.slice A1 m1 c1] ++ [.slice A2 m2 c2] ++ [.slice A3 m3 c3]) 11 (by decide)
              have mm := P4.out.cell hv4
              have mf := P4.out.unfrozen 11
              have MS := mcells_set (intsV l7 ++ [.bool a7] ++ [.slice A1 m1 c1] ++ [.slice A2 m2 c2] ++ [.slice A3 m3 c3]) (.slice A4 m4 c4) 11 (by simp [intsV_len, L7.out]) (by decide)
              have HB := P4.out.set 11 (.slice A4 m4 c4)
              rw [MS] at HB
              have K4 := Aside0.mk (HB.as (Q := srcP w0 p zs4 * (scapP q p * (blk pm (.cells (mcells (intsV l7 ++ [.bool a7] ++ [.slice A1 m1 c1] ++ [.slice A2 m2 c2] ++ [.slice A3 m3 c3] ++ [.slice A4 m4 c4])) 27) * (crow 5 145 A4 m4 c4 (n4.flatMap rowC) * (crow 4 143 A3 m3 c3 (n3.flatMap mutC) * (crow 4 135 A2 m2 c2 (n2.flatMap mutC) * (crow 1 3 A1 m1 c1 (n1.flatMap intC) * (blk (q + 1) (.cells #[.int .i64 0] 30) * (blk (q + 1 + 1) (.cells #[.pointer (some ⟨pm, 0, none⟩), .pointer (some ⟨pm, 1, none⟩), .pointer (some ⟨pm, 2, none⟩)] 203) * F))))))))) (by ac_rfl))
              clear g hr hl hb MS HB hv4 K3 R3L
              have PE := Aside0.mk (K4.out.atB (q + 1))
              have z1 := PE.out.cell (i := 0) (v := .int .i64 0) rfl
              have z2 := PE.out.unfrozen 0
              have PZ := Aside0.mk (PE.out.set 0 (.int .i64 0))
              have z3 := (P4.out.atB (q + 1)).cell (i := 0) (v := .int .i64 0) rfl
              have z4 := (P4.out.atB (q + 1)).unfrozen 0
              go_wp2_with fail
              clear y4 mm mf P4
              refine leaves_cons (f := 99) (args := #[.pointer (some ⟨q + 1, 0, none⟩)]) (by simp) (by simp [go_sem]) ?_
              refine (caught_idle (q + 1) _).mono ?_
              rintro e u' w9 ⟨rfl, rfl, rfl⟩
              have AL := Aside0.mk (PZ.out.alloc (.cells #[.int .i64 0] 225))
              have z0 := (AL.out.atB (q + 1)).cell (i := 0) (v := .int .i64 0) rfl
              refine ⟨.int .i64 0, by simp [results, Try.results75, go_sem, z0], .inl ⟨mkMsg l7 a7 n1 n2 n3 n4, zs4, (A1, m1, c1), (A2, m2, c2), (A3, m3, c3), (A4, m4, c4), R4L.out, ⟨L1L.out, L2L.out, L3L.out, L4L.out⟩, rfl, ?_⟩⟩
              rw [← mcells_full l7 L7.out]
              exact (AL.out.right.as (Q := (srcP w0 p zs4 * (blk pm (.cells (mcells (intsV l7 ++ [.bool a7] ++ [.slice A1 m1 c1] ++ [.slice A2 m2 c2] ++ [.slice A3 m3 c3] ++ [.slice A4 m4 c4])) 27) * (listsP n1 n2 n3 n4 (A1, m1, c1) (A2, m2, c2) (A3, m3, c3) (A4, m4, c4) * F))) * (scapP q p * (blk (q + 1) (.cells #[.int .i64 0] 30) * blk (q + 1 + 1) (.cells #[.pointer (some ⟨pm, 0, none⟩), .pointer (some ⟨pm, 1, none⟩), .pointer (some ⟨pm, 2, none⟩)] 203)))) (by
                show blk (q + 1) (.cells #[.int .i64 0] 30) * _ = _
                unfold listsP
                ac_rfl)).left
            · have RE := Aside0.mk (R3L.out.trans (Rd.bind_err hr _))
              have HX := Aside0.mk (g.atB (q + 1))
              have k2 := HX.out.cell (i := 0) (v := .int .i64 0) rfl
              have zf := HX.out.unfrozen 0
              have l2 := HX.out.lt
              refine leaves_cons (f := 99) (args := #[.pointer (some ⟨q + 1, 0, none⟩)]) (by simp) (by simp [go_sem]) ?_
              refine (caught_some (q + 1) _ c _ k2 zf l2).mono ?_
              rintro e u' w6 ⟨rfl, rfl, rfl⟩
              have HZ := Aside0.mk (((HX.out.alloc (.cells #[.int .i64 c] 225)).atB (q + 1)).set 0 (.int .i64 c))
              have z0 := HZ.out.cell (i := 0) (v := .int .i64 c) rfl
              exact ⟨.int .i64 c, by simp [results, Try.results75, go_sem, z0], .inr ⟨c, RE.out, hc, rfl, HZ.out.only F⟩⟩
          · have RE := Aside0.mk (R2L.out.trans (Rd.bind_err hr _))
            have HX := Aside0.mk (g.atB (q + 1))
            have k2 := HX.out.cell (i := 0) (v := .int .i64 0) rfl
            have zf := HX.out.unfrozen 0
            have l2 := HX.out.lt
            refine leaves_cons (f := 99) (args := #[.pointer (some ⟨q + 1, 0, none⟩)]) (by simp) (by simp [go_sem]) ?_
            refine (caught_some (q + 1) _ c _ k2 zf l2).mono ?_
            rintro e u' w6 ⟨rfl, rfl, rfl⟩
            have HZ := Aside0.mk (((HX.out.alloc (.cells #[.int .i64 c] 225)).atB (q + 1)).set 0 (.int .i64 c))
            have z0 := HZ.out.cell (i := 0) (v := .int .i64 c) rfl
            exact ⟨.int .i64 c, by simp [results, Try.results75, go_sem, z0], .inr ⟨c, RE.out, hc, rfl, HZ.out.only F⟩⟩
        · have RE := Aside0.mk (R1L.out.trans (Rd.bind_err hr _))
          have HX := Aside0.mk (g.atB (q + 1))
          have k2 := HX.out.cell (i := 0) (v := .int .i64 0) rfl
          have zf := HX.out.unfrozen 0
          have l2 := HX.out.lt
          refine leaves_cons (f := 99) (args := #[.pointer (some ⟨q + 1, 0, none⟩)]) (by simp) (by simp [go_sem]) ?_
          refine (caught_some (q + 1) _ c _ k2 zf l2).mono ?_
          rintro e u' w6 ⟨rfl, rfl, rfl⟩
          have HZ := Aside0.mk (((HX.out.alloc (.cells #[.int .i64 c] 225)).atB (q + 1)).set 0 (.int .i64 c))
          have z0 := HZ.out.cell (i := 0) (v := .int .i64 c) rfl
          exact ⟨.int .i64 c, by simp [results, Try.results75, go_sem, z0], .inr ⟨c, RE.out, hc, rfl, HZ.out.only F⟩⟩
      · have RE := Aside0.mk (RY.out.trans (Rd.bind_err hr _))
        have HX := Aside0.mk (g.atB (q + 1))
        have k2 := HX.out.cell (i := 0) (v := .int .i64 0) rfl
        have zf := HX.out.unfrozen 0
        have l2 := HX.out.lt
        refine leaves_cons (f := 99) (args := #[.pointer (some ⟨q + 1, 0, none⟩)]) (by simp) (by simp [go_sem]) ?_
        refine (caught_some (q + 1) _ c _ k2 zf l2).mono ?_
        rintro e u' w6 ⟨rfl, rfl, rfl⟩
        have HZ := Aside0.mk (((HX.out.alloc (.cells #[.int .i64 c] 225)).atB (q + 1)).set 0 (.int .i64 c))
        have z0 := HZ.out.cell (i := 0) (v := .int .i64 c) rfl
        exact ⟨.int .i64 c, by simp [results, Try.results75, go_sem, z0], .inr ⟨c, RE.out, hc, rfl, HZ.out.only F⟩⟩
end Go.Proofs.Ytckdkbjobipniaa

/- Decode. -/
set_option linter.unusedVariables false
set_option linter.unusedSimpArgs false
namespace Go.Proofs.Ytckdkbjobipniaa
open Go.RowKit Go.Proofs.YtckdkbjobipniaaW.PrintWords Go.Proofs.YtckdkbjobipniaaW.PrintLast
/-- What Decode answers. -/
def rDec (xs : List Int) : Except Int Msg := if 16384 < xs.length then .error 2 else match rMsg xs with
  | .error c => .error c
  | .ok (m, []) => .ok m
  | .ok (_, _ :: _) => .error 21
def zeroMsg : Msg := ⟨0, 0, 0, 0, 0, 0, 0, false, [], [], [], []⟩
abbrev nilH : Hdr := (none, 0, 0)
def DecPost (w : World) (xs : List Int) (e : Ending) (w' : World) : Prop :=
  (∃ m s1 s2 s3 s4, rDec xs = .ok m ∧ HdrsOf m s1 s2 s3 s4 ∧ e = .returned (.tuple #[msgV m s1 s2 s3 s4, .int .i64 0]) ∧ Hw w w' (listsP m.nodes m.muts m.pre m.rows s1 s2 s3 s4 * HP.emp)) ∨
  (∃ c, rDec xs = .error c ∧ c ≠ 0 ∧ e = .returned (.tuple #[msgV zeroMsg nilH nilH nilH nilH, .int .i64 c]) ∧ Below w.heap.size w w')
set_option maxHeartbeats 12800000 in
set_option maxRecDepth 100000 in
theorem decode_ok (A : Option Addr) (n c : Nat) (xs : List Int) (w : World) (hC : (Kd.int .u8).C w A n xs) (hc : n ≤ c) (hb : bytes xs) :
    Calls Try.prog 14 #[.slice A n c] w (DecPost w xs) := by
  have NL := Aside0.mk hC.1
  have CC := Aside0.mk hC
  have BB := Aside0.mk hb
  have hm : n ≤ 9223372036854775807 := hC.2.1
  have H1 := Aside0.mk ((Hw.start w).alloc (.cells #[.int .i64 0, .int .i64 0, .int .i64 0, .int .i64 0, .int .i64 0, .int .i64 0, .int .i64 0, .bool false, .slice none 0 0, .slice none 0 0, .slice none 0 0, .slice none 0 0] 27))
  have RD := Aside0.mk (show rDec xs = if 16384 < xs.length then .error 2 else match rMsg xs with
    | .error c => .error c
    | .ok (m, []) => .ok m
    | .ok (_, _ :: _) => .error 21 from rfl)
  clear hC hb
  by_cases hlong : 16384 < n
  · have d1 : decide ((16384 : Int) < n) = true := decide_eq_true (by omega)
    have d2 : decide (16384 < n) = true := decide_eq_true hlong
    have RE := Aside0.mk (RD.out.trans (if_pos (by rw [NL.out]; exact hlong)))
    have k0 := (H1.out.atB w.heap.size).cell (i := 0) (v := .int .i64 0) rfl
    have k1 := (H1.out.atB w.heap.size).cell (i := 1) (v := .int .i64 0) rfl
    have k2 := (H1.out.atB w.heap.size).cell (i := 2) (v := .int .i64 0) rfl
    have k3 := (H1.out.atB w.heap.size).cell (i := 3) (v := .int .i64 0) rfl
    have k4 := (H1.out.atB w.heap.size).cell (i := 4) (v := .int .i64 0) rfl
    have k5 := (H1.out.atB w.heap.size).cell (i := 5) (v := .int .i64 0) rfl
    have k6 := (H1.out.atB w.heap.size).cell (i := 6) (v := .int .i64 0) rfl
    have k7 := (H1.out.atB w.heap.size).cell (i := 7) (v := .bool false) rfl
    have k8 := (H1.out.atB w.heap.size).cell (i := 8) (v := .slice none 0 0) rfl
    have k9 := (H1.out.atB w.heap.size).cell (i := 9) (v := .slice none 0 0) rfl
    have k10 := (H1.out.atB w.heap.size).cell (i := 10) (v := .slice none 0 0) rfl
    have k11 := (H1.out.atB w.heap.size).cell (i := 11) (v := .slice none 0 0) rfl
    go_enter Try.func14, Try.ntmps14
    go_wp2_with fail
    exact bodyPost_ret (v := .tuple #[.agg #[.int .i64 0, .int .i64 0, .int .i64 0, .int .i64 0, .int .i64 0, .int .i64 0, .int .i64 0, .bool false, .slice none 0 0, .slice none 0 0, .slice none 0 0, .slice none 0 0], .int .i64 2]) (by simp [results, Try.results14, go_sem, k0, k1, k2, k3, k4, k5, k6, k7, k8, k9, k10, k11]) rfl (.inr ⟨2, RE.out, by decide, rfl, H1.out.below⟩)
  · have d1 : decide ((16384 : Int) < n) = false := decide_eq_false (by omega)
    have d2 : decide (16384 < n) = false := decide_eq_false hlong
    have R2 := Aside0.mk (RD.out.trans (if_neg (by rw [NL.out]; exact hlong)))
    have H2 := Aside0.mk ((H1.out.alloc (.cells #[.slice A n c] 147)).alloc (.cells #[.int .i64 0, .int .i64 0, .int .i64 0, .int .i64 0, .int .i64 0, .int .i64 0, .int .i64 0, .bool false, .slice none 0 0, .slice none 0 0, .slice none 0 0, .slice none 0 0] 27))
    simp only [World.size_alloc] at H2
    have MM := Aside0.mk (rmessage_ok (pm := w.heap.size + 1 + 1) (p := w.heap.size + 1) (xs := xs) (F := blk w.heap.size (.cells #[.int .i64 0, .int .i64 0, .int .i64 0, .int .i64 0, .int .i64 0, .int .i64 0, .int .i64 0, .bool false, .slice none 0 0, .slice none 0 0, .slice none 0 0, .slice none 0 0] 27) * HP.emp) (src_mk CC.out hc BB.out (H2.out.as (Q := blk (w.heap.size + 1) (.cells #[.slice A n c] 147) * (blk (w.heap.size + 1 + 1) (.cells (mcells []) 27) * (blk w.heap.size (.cells #[.int .i64 0, .int .i64 0, .int .i64 0, .int .i64 0, .int .i64 0, .int .i64 0, .int .i64 0, .bool false, .slice none 0 0, .slice none 0 0, .slice none 0 0, .slice none 0 0] 27) * HP.emp))) (by
      show blk (w.heap.size + 1 + 1) (.cells (mcells []) 27) * _ = _
      ac_rfl))))
    clear H1 H2 RD
    go_enter Try.func14, Try.ntmps14
    go_wp2_with fail
    refine MM.out.mono ?_
    rintro e w1 (⟨m, ys, s1, s2, s3, s4, hr, hh, rfl, g⟩ | ⟨cc, hr, hcc, rfl, g⟩)
    · have HH := Aside0.mk hh
      obtain ⟨A2, n2, c2, hC2, hn2, hb2, g2⟩ := src_open g
      have G := Aside0.mk (g2.atB w.heap.size)
      have ks := g2.cell (i := 0) (v := .slice A2 n2 c2) rfl
      have NL2 := Aside0.mk hC2.1
      have HR := Aside0.mk hr
      have hm2 : n2 ≤ 9223372036854775807 := hC2.2.1
      clear g hr hh hC2 hb2 MM
      by_cases hmore : 0 < n2
      · have e1 : decide ((0 : Int) < n2) = true := decide_eq_true (by omega)
        have e2 : decide (0 < n2) = true := decide_eq_true hmore
        have RE := Aside0.mk (show rDec xs = .error 21 by
          rw [R2.out, HR.out]
          cases ys with
          | nil => have := NL2.out; simp at this; omega
          | cons y ys => rfl)
        clear g2
        go_wp2_with (refine Hw.store_row rfl 27 (.tmp 2) (.tmp 28) rfl w.heap.size #[.int .i64 0, .int .i64 0, .int .i64 0, .int .i64 0, .int .i64 0, .int .i64 0, .int .i64 0, .bool false, .slice none 0 0, .slice none 0 0, .slice none 0 0, .slice none 0 0] rfl rfl G.out (by kernel_rfl) (by rfl) (by first | kernel_rfl | rfl | simp [Value.oneCell'])  ?_; intro w5 GZ)
        have k0 := (GZ.out.atB w.heap.size).cell (i := 0) (v := .int .i64 0) rfl
        have k1 := (GZ.out.atB w.heap.size).cell (i := 1) (v := .int .i64 0) rfl
        have k2 := (GZ.out.atB w.heap.size).cell (i := 2) (v := .int .i64 0) rfl
        have k3 := (GZ.out.atB w.heap.size).cell (i := 3) (v := .int .i64 0) rfl
        have k4 := (GZ.out.atB w.heap.size).cell (i := 4) (v := .int .i64 0) rfl
        have k5 := (GZ.out.atB w.heap.size).cell (i := 5) (v := .int .i64 0) rfl
        have k6 := (GZ.out.atB w.heap.size).cell (i := 6) (v := .int .i64 0) rfl
        have k7 := (GZ.out.atB w.heap.size).cell (i := 7) (v := .bool false) rfl
        have k8 := (GZ.out.atB w.heap.size).cell (i := 8) (v := .slice none 0 0) rfl
        have k9 := (GZ.out.atB w.heap.size).cell (i := 9) (v := .slice none 0 0) rfl
        have k10 := (GZ.out.atB w.heap.size).cell (i := 10) (v := .slice none 0 0) rfl
        have k11 := (GZ.out.atB w.heap.size).cell (i := 11) (v := .slice none 0 0) rfl
        exact bodyPost_ret (v := .tuple #[.agg #[.int .i64 0, .int .i64 0, .int .i64 0, .int .i64 0, .int .i64 0, .int .i64 0, .int .i64 0, .bool false, .slice none 0 0, .slice none 0 0, .slice none 0 0, .slice none 0 0], .int .i64 21]) (by simp [results, Try.results14, go_sem, k0, k1, k2, k3, k4, k5, k6, k7, k8, k9, k10, k11]) rfl (.inr ⟨21, RE.out, by decide, rfl, GZ.out.below⟩)
      · have e1 : decide ((0 : Int) < n2) = false := decide_eq_false (by omega)
        have e2 : decide (0 < n2) = false := decide_eq_false hmore
        have RE := Aside0.mk (show rDec xs = .ok m by
          rw [R2.out, HR.out]
          cases ys with
          | nil => rfl
          | cons y ys => have := NL2.out; simp at this; omega)
        have m0 := (G.out.atB (w.heap.size + 1 + 1)).cell (i := 0) (v := .int .i64 m.kind) rfl
        have m1 := (G.out.atB (w.heap.size + 1 + 1)).cell (i := 1) (v := .int .i64 m.src) rfl
        have m2 := (G.out.atB (w.heap.size + 1 + 1)).cell (i := 2) (v := .int .i64 m.dst) rfl
        have m3 := (G.out.atB (w.heap.size + 1 + 1)).cell (i := 3) (v := .int .i64 m.id) rfl
        have m4 := (G.out.atB (w.heap.size + 1 + 1)).cell (i := 4) (v := .int .i64 m.rev) rfl
        have m5 := (G.out.atB (w.heap.size + 1 + 1)).cell (i := 5) (v := .int .i64 m.epoch) rfl
        have m6 := (G.out.atB (w.heap.size + 1 + 1)).cell (i := 6) (v := .int .i64 m.slot) rfl
        have m7 := (G.out.atB (w.heap.size + 1 + 1)).cell (i := 7) (v := .bool m.flag) rfl
        have m8 := (G.out.atB (w.heap.size + 1 + 1)).cell (i := 8) (v := .slice s1.1 s1.2.1 s1.2.2) rfl
        have m9 := (G.out.atB (w.heap.size + 1 + 1)).cell (i := 9) (v := .slice s2.1 s2.2.1 s2.2.2) rfl
        have m10 := (G.out.atB (w.heap.size + 1 + 1)).cell (i := 10) (v := .slice s3.1 s3.2.1 s3.2.2) rfl
        have m11 := (G.out.atB (w.heap.size + 1 + 1)).cell (i := 11) (v := .slice s4.1 s4.2.1 s4.2.2) rfl
        clear g2
        go_wp2_with (refine Hw.store_row rfl 27 (.tmp 2) (.tmp 29) rfl w.heap.size #[.int .i64 m.kind, .int .i64 m.src, .int .i64 m.dst, .int .i64 m.id, .int .i64 m.rev, .int .i64 m.epoch, .int .i64 m.slot, .bool m.flag, .slice s1.1 s1.2.1 s1.2.2, .slice s2.1 s2.2.1 s2.2.2, .slice s3.1 s3.2.1 s3.2.2, .slice s4.1 s4.2.1 s4.2.2] rfl rfl G.out (by kernel_rfl) (by rfl) (by first | kernel_rfl | rfl | simp [Value.oneCell'])  ?_; intro w5 GM)
        clear m0 m1 m2 m3 m4 m5 m6 m7 m8 m9 m10 m11
        have k0 := (GM.out.atB w.heap.size).cell (i := 0) (v := .int .i64 m.kind) rfl
        have k1 := (GM.out.atB w.heap.size).cell (i := 1) (v := .int .i64 m.src) rfl
        have k2 := (GM.out.atB w.heap.size).cell (i := 2) (v := .int .i64 m.dst) rfl
        have k3 := (GM.out.atB w.heap.size).cell (i := 3) (v := .int .i64 m.id) rfl
        have k4 := (GM.out.atB w.heap.size).cell (i := 4) (v := .int .i64 m.rev) rfl
        have k5 := (GM.out.atB w.heap.size).cell (i := 5) (v := .int .i64 m.epoch) rfl
        have k6 := (GM.out.atB w.heap.size).cell (i := 6) (v := .int .i64 m.slot) rfl
        have k7 := (GM.out.atB w.heap.size).cell (i := 7) (v := .bool m.flag) rfl
        have k8 := (GM.out.atB w.heap.size).cell (i := 8) (v := .slice s1.1 s1.2.1 s1.2.2) rfl
        have k9 := (GM.out.atB w.heap.size).cell (i := 9) (v := .slice s2.1 s2.2.1 s2.2.2) rfl
        have k10 := (GM.out.atB w.heap.size).cell (i := 10) (v := .slice s3.1 s3.2.1 s3.2.2) rfl
        have k11 := (GM.out.atB w.heap.size).cell (i := 11) (v := .slice s4.1 s4.2.1 s4.2.2) rfl
        refine bodyPost_ret (v := .tuple #[.agg #[.int .i64 m.kind, .int .i64 m.src, .int .i64 m.dst, .int .i64 m.id, .int .i64 m.rev, .int .i64 m.epoch, .int .i64 m.slot, .bool m.flag, .slice s1.1 s1.2.1 s1.2.2, .slice s2.1 s2.2.1 s2.2.2, .slice s3.1 s3.2.1 s3.2.2, .slice s4.1 s4.2.1 s4.2.2], .int .i64 0]) (by simp [results, Try.results14, go_sem, k0, k1, k2, k3, k4, k5, k6, k7, k8, k9, k10, k11]) rfl (.inl ⟨m, s1, s2, s3, s4, RE.out, HH.out, rfl, ?_⟩)
        exact ((GM.out.at (listsP m.nodes m.muts m.pre m.rows s1 s2 s3 s4)).left).as (HP.mul_emp _).symm
    · have HR := Aside0.mk hr
      have G := Aside0.mk (g.atB w.heap.size)
      have q : (cc != 0) = true := by simpa using hcc
      have RE := Aside0.mk (show rDec xs = .error cc by rw [R2.out, HR.out])
      clear g hr MM
      go_wp2_with (refine Hw.store_row rfl 27 (.tmp 2) (.tmp 19) rfl w.heap.size #[.int .i64 0, .int .i64 0, .int .i64 0, .int .i64 0, .int .i64 0, .int .i64 0, .int .i64 0, .bool false, .slice none 0 0, .slice none 0 0, .slice none 0 0, .slice none 0 0] rfl rfl G.out (by kernel_rfl) (by rfl) (by first | kernel_rfl | rfl | simp [Value.oneCell'])  ?_; intro w5 GZ)
      have k0 := (GZ.out.atB w.heap.size).cell (i := 0) (v := .int .i64 0) rfl
      have k1 := (GZ.out.atB w.heap.size).cell (i := 1) (v := .int .i64 0) rfl
      have k2 := (GZ.out.atB w.heap.size).cell (i := 2) (v := .int .i64 0) rfl
      have k3 := (GZ.out.atB w.heap.size).cell (i := 3) (v := .int .i64 0) rfl
      have k4 := (GZ.out.atB w.heap.size).cell (i := 4) (v := .int .i64 0) rfl
      have k5 := (GZ.out.atB w.heap.size).cell (i := 5) (v := .int .i64 0) rfl
      have k6 := (GZ.out.atB w.heap.size).cell (i := 6) (v := .int .i64 0) rfl
      have k7 := (GZ.out.atB w.heap.size).cell (i := 7) (v := .bool false) rfl
      have k8 := (GZ.out.atB w.heap.size).cell (i := 8) (v := .slice none 0 0) rfl
      have k9 := (GZ.out.atB w.heap.size).cell (i := 9) (v := .slice none 0 0) rfl
      have k10 := (GZ.out.atB w.heap.size).cell (i := 10) (v := .slice none 0 0) rfl
      have k11 := (GZ.out.atB w.heap.size).cell (i := 11) (v := .slice none 0 0) rfl
      exact bodyPost_ret (v := .tuple #[.agg #[.int .i64 0, .int .i64 0, .int .i64 0, .int .i64 0, .int .i64 0, .int .i64 0, .int .i64 0, .bool false, .slice none 0 0, .slice none 0 0, .slice none 0 0, .slice none 0 0], .int .i64 cc]) (by simp [results, Try.results14, go_sem, k0, k1, k2, k3, k4, k5, k6, k7, k8, k9, k10, k11]) rfl (.inr ⟨cc, RE.out, hcc, rfl, GZ.out.below⟩)
end Go.Proofs.Ytckdkbjobipniaa
