/- The reference's reading: number, flag, count, text, tuple. A source is a text and an error's number. -/
import Derived.Test.YtckdkbjobipniaaCodeI
import Derived.Test.YtckdkbjobipniaaCB
set_option linter.unusedVariables false
set_option linter.unusedSimpArgs false
namespace Go.Proofs.Ytckdkbjobipniaa
open Go.RowKit Go.Proofs.YtckdkbjobipniaaW.PrintWords Go.Proofs.YtckdkbjobipniaaW.PrintLast
/-- A source: what is left, or the error's number. -/
abbrev Sr := Except Int (List Int)
def srT : Sr → ByteArray
  | .ok xs => strOfNums xs
  | .error _ => ⟨#[]⟩
def srC : Sr → Int
  | .ok _ => 0
  | .error c => c
def SrOk : Sr → Prop
  | .ok xs => bytes xs ∧ xs.length ≤ 140737488351232
  | .error c => c ≠ 0
def srB {α : Type} (s : Sr) (f : List Int → Rd α) : Rd α := match s with
  | .ok xs => f xs
  | .error c => .error c
abbrev srV (s : Sr) : Value := .agg #[.string (srT s), .int .i64 (srC s)]
/-- What a reading leaves. -/
structure SrTo {α : Type} (Z : α → Prop) (s : Sr) (f : List Int → Rd α) (a : α) (t : Sr) : Prop where
  ok : SrOk t
  good : ∀ b ys, srB s f = .ok (b, ys) → a = b ∧ t = .ok ys
  bad : ∀ c, srB s f = .error c → Z a ∧ t = .error c
def RefPost {α : Type} (w : World) (Z : α → Prop) (s : Sr) (f : List Int → Rd α) (V : α → Value) (e : Ending) (w' : World) : Prop := ∃ a t, SrTo Z s f a t ∧ e = .returned (.tuple #[V a, srV t]) ∧ Below w.heap.size w w'
theorem SrTo.err {α : Type} {Z : α → Prop} {s : Sr} {f : List Int → Rd α} {a : α} {c : Int} (h : srB s f = .error c) (hc : c ≠ 0) (hz : Z a) : SrTo Z s f a (.error c) :=
  ⟨hc, (fun b ys e => by rw [h] at e; cases e), fun c' e => by rw [h] at e; injection e with e; subst e; exact ⟨hz, rfl⟩⟩
theorem SrTo.yes {α : Type} {Z : α → Prop} {s : Sr} {f : List Int → Rd α} {a : α} {ys : List Int} (h : srB s f = .ok (a, ys)) (hb : bytes ys) (hl : ys.length ≤ 140737488351232) : SrTo Z s f a (.ok ys) :=
  ⟨⟨hb, hl⟩, (fun b ys' e => by rw [h] at e; injection e with e; injection e with e1 e2; exact ⟨e1, by rw [e2]⟩), fun c' e => by rw [h] at e; cases e⟩
/-- The chain of readings goes on. -/
theorem SrTo.next {α β : Type} {Z : α → Prop} {s : Sr} {f : List Int → Rd α} {a : α} {t : Sr} (h : SrTo Z s f a t) {r : Rd β} {K : α → List Int → Rd β} (e : r = srB s fun xs => (f xs).bind K) : r = srB t (K a) := by
  rw [e]
  cases hs : srB s f with
  | ok p =>
    obtain ⟨b, ys⟩ := p
    obtain ⟨rfl, rfl⟩ := h.good b ys hs
    cases s with
    | ok xs =>
      have h2 : f xs = .ok (a, ys) := hs
      show (f xs).bind K = K a ys
      rw [h2]; rfl
    | error c => cases hs
  | error c =>
    obtain ⟨_, rfl⟩ := h.bad c hs
    cases s with
    | ok xs =>
      have h2 : f xs = .error c := hs
      show (f xs).bind K = .error c
      rw [h2]; rfl
    | error c' =>
      have h2 : (Except.error c' : Rd α) = .error c := hs
      injection h2 with h2
      show (Except.error c' : Rd β) = .error c
      rw [h2]
theorem RefPost.mk {α : Type} {w w' : World} {Z : α → Prop} {s : Sr} {f : List Int → Rd α} {V : α → Value} {e : Ending} (a : α) (t : Sr) (h : SrTo Z s f a t) (he : e = .returned (.tuple #[V a, srV t])) (hb : Below w.heap.size w w') : RefPost w Z s f V e w' := ⟨a, t, h, he, hb⟩
set_option maxHeartbeats 1600000 in
set_option maxRecDepth 100000 in
theorem refnumber_err (c : Int) (hc : c ≠ 0) (f : List Int → Rd Int) (w : World) :
    Calls Try.prog 76 #[srV (.error c)] w (RefPost w (· = 0) (.error c) f (Value.int .i64)) := by
  have H1 := Aside0.mk (((Hw.start w).alloc (.cells #[.string ⟨#[]⟩, .int .i64 c] 151)).alloc (.cells #[.string ⟨#[]⟩, .int .i64 0] 151)).drew
  simp only [World.size_alloc] at H1
  have k0 := H1.out.cellAt w.heap.size 0 (v := .string ⟨#[]⟩) rfl
  have k1 := H1.out.cellAt w.heap.size 1 (v := .int .i64 c) rfl
  have z0 := H1.out.cellAt (w.heap.size + 1) 0 (v := .string ⟨#[]⟩) rfl
  have z1 := H1.out.cellAt (w.heap.size + 1) 1 (v := .int .i64 0) rfl
  have zf := H1.out.freeAt (w.heap.size + 1)
  have C := Aside0.mk hc
  have d1 : (c != 0) = true := by simpa using hc
  have d2 : (c == 0) = false := by simpa using hc
  show Calls Try.prog 76 #[.agg #[.string ⟨#[]⟩, .int .i64 c]] w _
  clear hc
  go_enter Try.func76, Try.ntmps76
  go_upto_region 2 with fail
  refine start_ (n := 3) (S := fun w' => w'.cell? ⟨w.heap.size, 0, none⟩ = some (.string ⟨#[]⟩) ∧ w'.cell? ⟨w.heap.size, 1, none⟩ = some (.int .i64 c)) (ds := [2]) #[false, false, false] (by kernel_rfl) rfl rfl ⟨k0, k1⟩ (fun hHeld => ?_)
  refine pure_ (i := 1) (N := some 2) (v := ?_) (a' := ?_) #[false, true, false] rfl rfl (by kernel_rfl) (fun _ _ _ h => h) (Or.inl ⟨by rfl, ?_⟩) ?_ ?_
  rotate_left
  · intro w'
    go_simp
    with_reducible rfl
  rotate_left
  · simp only [Act.put, List.setIfInBounds_toArray, List.set_cons_zero, List.set_cons_succ, i64_w, i32_w]
    rfl
  refine take_ (i := 0) (N := some 10) (v := ?_) (a' := ?_) #[true, true, false] rfl rfl (by kernel_rfl) (fun _ _ _ h => h) (Or.inl ⟨by rfl, ?_⟩) hHeld ?_ ?_
  rotate_left
  · rintro w' ⟨s0, s1⟩
    go_simp
    with_reducible rfl
  rotate_left
  · simp only [Act.put, List.setIfInBounds_toArray, List.set_cons_zero, List.set_cons_succ, i64_w, i32_w]
    rfl
  refine last_ (i := 2) (N := none) #[true, true, true] rfl rfl (by kernel_rfl) (by decide) (fun K hK => ?_)
  refine skip_ (w1 := ?_) (by rfl) rfl ?_ ?_
  rotate_left
  · go_simp
    rfl
  refine hK.out _ _ ?_
  clear hK K
  refine done_ (by kernel_rfl) ?_
  have G := Aside0.mk (((Hw.start w).alloc (.cells #[.string ⟨#[]⟩, .int .i64 c] 151)).alloc (.cells #[.string ⟨#[]⟩, .int .i64 c] 151)).drew
  simp only [World.size_alloc] at G
  clear hHeld k0 k1 z0 z1 zf H1
  go_wp2_with fail
  have y0 := G.out.cellAt (w.heap.size + 1) 0 (v := .string ⟨#[]⟩) rfl
  have y1 := G.out.cellAt (w.heap.size + 1) 1 (v := .int .i64 c) rfl
  exact bodyPost_ret (v := .tuple #[.int .i64 0, .agg #[.string ⟨#[]⟩, .int .i64 c]]) (by simp [results, Try.results76, go_sem, y0, y1]) rfl (.mk 0 (.error c) (.err rfl C.out rfl) rfl G.out.below)
theorem SrTo.of_ok {α : Type} {Z : α → Prop} {s : Sr} {f : List Int → Rd α} {a : α} {ys : List Int} (h : SrTo Z s f a (.ok ys)) : srB s f = .ok (a, ys) := by
  cases hs : srB s f with
  | ok p =>
    obtain ⟨b, zs⟩ := p
    obtain ⟨rfl, e⟩ := h.good b zs hs
    injection e with e
    rw [e]
  | error c => have := (h.bad c hs).2; cases this
theorem SrTo.of_err {α : Type} {Z : α → Prop} {s : Sr} {f : List Int → Rd α} {a : α} {c : Int} (h : SrTo Z s f a (.error c)) : srB s f = .error c ∧ Z a := by
  cases hs : srB s f with
  | ok p => obtain ⟨b, zs⟩ := p; have := (h.good b zs hs).2; cases this
  | error c' =>
    obtain ⟨h1, e⟩ := h.bad c' hs
    injection e with e
    exact ⟨by rw [e], h1⟩
theorem SrTo.last {α : Type} {Z : α → Prop} {s t : Sr} {f : List Int → Rd α} {a : α} (e : srB s f = srB t (fun vs => .ok (a, vs))) (ht : SrOk t) (hz : Z a) : SrTo Z s f a t := by
  cases t with
  | ok ys => exact .yes e ht.1 ht.2
  | error c => exact .err e ht hz
theorem rcount_eq (m : Int) (s : Sr) : srB s (rCount m) = match srB s rInt with
  | .error e => .error e
  | .ok (n, ys) => if n < 0 ∨ m < n then .error 2 else .ok (n.toNat, ys) := by cases s <;> rfl
theorem rtext_eq (s : Sr) : srB s rText = match srB s (rCount 128) with
  | .error e => .error e
  | .ok (n, ys) => match rTake n ys with
    | .error e => .error e
    | .ok (t, zs) => .ok (strOfNums t, zs) := by cases s <;> rfl
set_option maxHeartbeats 1600000 in
set_option maxRecDepth 100000 in
theorem refnumber_yes (xs : List Int) (hb : bytes xs) (hl : xs.length ≤ 140737488351232) (w : World) :
    Calls Try.prog 76 #[srV (.ok xs)] w (RefPost w (· = 0) (.ok xs) rInt (Value.int .i64)) := by
  obtain ⟨s, hs⟩ : ∃ s, s = strOfNums xs := ⟨_, rfl⟩
  show Calls Try.prog 76 #[.agg #[.string (strOfNums xs), .int .i64 0]] w _
  have RG := Aside0.mk (refget_ok xs hb hl)
  rw [← hs] at RG ⊢
  have HB := Aside0.mk hb
  have HL := Aside0.mk hl
  have GS := gget_size xs 0 0
  have RI : Aside0 (rInt xs = if (getI xs).2.2 = 0 then .ok ((getI xs).1, xs.drop (getI xs).2.1.toNat) else .error (getI xs).2.2) := ⟨rfl⟩
  obtain ⟨g, hg⟩ : ∃ g, getI xs = g := ⟨_, rfl⟩
  rw [show gget 0 0 xs = getI xs from rfl] at GS
  rw [hg] at RG RI GS
  obtain ⟨a, b, c⟩ := g
  dsimp only at RG RI GS
  have H1 := Aside0.mk (((Hw.start w).alloc (.cells #[.string s, .int .i64 0] 151)).alloc (.cells #[.string ⟨#[]⟩, .int .i64 0] 151))
  simp only [World.size_alloc] at H1
  have k0 := H1.out.cellAt w.heap.size 0 (v := .string s) rfl
  clear hb hg
  by_cases hc : c = 0
  · subst hc
    obtain ⟨g1, g2⟩ := GS rfl
    obtain ⟨k, rfl⟩ : ∃ k : Nat, b = k := ⟨b.toNat, by omega⟩
    have hk : k ≤ xs.length := by omega
    have hcut := tx_slice_from (P := Try.prog) 9 Try.underlying9 xs (k : Int) k rfl hk
    rw [← hs] at hcut
    obtain ⟨s2, hs2⟩ : ∃ s2, s2 = strOfNums (xs.drop k) := ⟨_, rfl⟩
    rw [← hs2] at hcut
    have S2 := Aside0.mk hs2
    clear hs hs2 GS g1 hk hl
    go_enter Try.func76, Try.ntmps76
    go_wp2_with fail
    refine (RG.out _).mono ?_
    rintro e w1 ⟨rfl, hbel⟩
    have H0 := Aside0.mk (H1.out.from_below hbel)
    have H2 := Aside0.mk H0.out.drew
    have k1 := H2.out.cellAt w.heap.size 0 (v := .string s) rfl
    have z0 := H0.out.cellAt (w.heap.size + 1) 0 (v := .string ⟨#[]⟩) rfl
    have z1 := H0.out.cellAt (w.heap.size + 1) 1 (v := .int .i64 0) rfl
    have zf := H0.out.freeAt (w.heap.size + 1)
    have kb1 : (0 : Int) ≤ (k : Int) := by omega
    clear hbel H1 k0 RG
    go_upto_region 6 with fail
    refine start_ (n := 8) (S := fun w' => w'.cell? ⟨w.heap.size, 0, none⟩ = some (.string s)) (ds := [7]) #[false, false, false, false, false, false, false, false] (by kernel_rfl) rfl rfl (k1) (fun hHeld => ?_)
    refine pure_ (i := 0) (N := some 22) (v := ?_) (a' := ?_) #[true, false, false, false, false, false, false, false] rfl rfl (by kernel_rfl) (fun _ _ _ h => h) (Or.inl ⟨by rfl, ?_⟩) ?_ ?_
    rotate_left
    · intro w'
      go_simp
      with_reducible rfl
    rotate_left
    · simp only [Act.put, List.setIfInBounds_toArray, List.set_cons_zero, List.set_cons_succ, i64_w, i32_w]
      rfl
    refine pure_ (i := 1) (N := some 23) (v := ?_) (a' := ?_) #[true, true, false, false, false, false, false, false] rfl rfl (by kernel_rfl) (fun _ _ _ h => h) (Or.inl ⟨by rfl, ?_⟩) ?_ ?_
    rotate_left
    · intro w'
      go_simp
      with_reducible rfl
    rotate_left
    · simp only [Act.put, List.setIfInBounds_toArray, List.set_cons_zero, List.set_cons_succ, i64_w, i32_w]
      rfl
    refine pure_ (i := 3) (N := some 25) (v := ?_) (a' := ?_) #[true, true, false, true, false, false, false, false] rfl rfl (by kernel_rfl) (fun _ _ _ h => h) (Or.inl ⟨by rfl, ?_⟩) ?_ ?_
    rotate_left
    · intro w'
      go_simp
      with_reducible rfl
    rotate_left
    · simp only [Act.put, List.setIfInBounds_toArray, List.set_cons_zero, List.set_cons_succ, i64_w, i32_w]
      rfl
    refine pure_ (i := 6) (N := some 2) (v := ?_) (a' := ?_) #[true, true, false, true, false, false, true, false] rfl rfl (by kernel_rfl) (fun _ _ _ h => h) (Or.inl ⟨by rfl, ?_⟩) ?_ ?_
    rotate_left
    · intro w'
      go_simp
      with_reducible rfl
    rotate_left
    · simp only [Act.put, List.setIfInBounds_toArray, List.set_cons_zero, List.set_cons_succ, i64_w, i32_w]
      rfl
    refine take_ (i := 2) (N := some 24) (v := ?_) (a' := ?_) #[true, true, true, true, false, false, true, false] rfl rfl (by kernel_rfl) (fun _ _ _ h => h) (Or.inl ⟨by rfl, ?_⟩) hHeld ?_ ?_
    rotate_left
    · intro w' s0
      go_simp
      with_reducible rfl
    rotate_left
    · simp only [Act.put, List.setIfInBounds_toArray, List.set_cons_zero, List.set_cons_succ, i64_w, i32_w]
      rfl
    refine pure_ (i := 4) (N := some 26) (v := ?_) (a' := ?_) #[true, true, true, true, true, false, true, false] rfl rfl (by kernel_rfl) (fun _ _ _ h => h) (Or.inl ⟨by rfl, ?_⟩) ?_ ?_
    rotate_left
    · intro w'
      go_simp
      with_reducible rfl
    rotate_left
    · simp only [Act.put, List.setIfInBounds_toArray, List.set_cons_zero, List.set_cons_succ, i64_w, i32_w]
      rfl
    refine pure_ (i := 5) (N := some 27) (v := ?_) (a' := ?_) #[true, true, true, true, true, true, true, false] rfl rfl (by kernel_rfl) (fun _ _ _ h => h) (Or.inl ⟨by rfl, ?_⟩) ?_ ?_
    rotate_left
    · intro w'
      go_simp
      with_reducible rfl
    rotate_left
    · simp only [Act.put, List.setIfInBounds_toArray, List.set_cons_zero, List.set_cons_succ, i64_w, i32_w]
      rfl
    refine last_ (i := 7) (N := none) #[true, true, true, true, true, true, true, true] rfl rfl (by kernel_rfl) (by decide) (fun K hK => ?_)
    refine skip_ (w1 := ?_) (by rfl) rfl ?_ ?_
    rotate_left
    · go_simp
      rfl
    refine hK.out _ _ ?_
    clear hK K
    refine done_ (by kernel_rfl) ?_
    have G := Aside0.mk (((H0.out.atB (w.heap.size + 1)).set 0 (.string s2)).set 1 (.int .i64 0)).drew
    clear hHeld k1 z0 z1 zf H2 H0
    go_wp2_with fail
    have y0 := G.out.cell (i := 0) (v := .string s2) rfl
    have y1 := G.out.cell (i := 1) (v := .int .i64 0) rfl
    exact bodyPost_ret (v := .tuple #[.int .i64 a, .agg #[.string s2, .int .i64 0]]) (by simp [results, Try.results76, go_sem, y0, y1]) rfl (.mk a (.ok (xs.drop k)) (.yes (by show rInt xs = _; rw [RI.out]; simp) (bytes_drop HB.out k) (by rw [List.length_drop]; have := HL.out; omega)) (by rw [S2.out]; rfl) G.out.below)
  · have d1 : (c != 0) = true := by simpa using hc
    have d2 : (c == 0) = false := by simpa using hc
    have C := Aside0.mk hc
    have z0' := H1.out.freeAt (w.heap.size + 1)
    clear hs GS hl hc
    go_enter Try.func76, Try.ntmps76
    go_wp2_with fail
    refine (RG.out _).mono ?_
    rintro e w1 ⟨rfl, hbel⟩
    have H2 := Aside0.mk (H1.out.from_below hbel)
    have z0 := H2.out.cellAt (w.heap.size + 1) 0 (v := .string ⟨#[]⟩) rfl
    have z1 := H2.out.cellAt (w.heap.size + 1) 1 (v := .int .i64 0) rfl
    have zf := H2.out.freeAt (w.heap.size + 1)
    have G := Aside0.mk (((H2.out.atB (w.heap.size + 1)).set 0 (.string ⟨#[]⟩)).set 1 (.int .i64 c))
    clear hbel H1 k0 RG z0' H2
    go_wp2_with fail
    have y0 := G.out.cell (i := 0) (v := .string ⟨#[]⟩) rfl
    have y1 := G.out.cell (i := 1) (v := .int .i64 c) rfl
    exact bodyPost_ret (v := .tuple #[.int .i64 0, .agg #[.string ⟨#[]⟩, .int .i64 c]]) (by simp [results, Try.results76, go_sem, y0, y1]) rfl (.mk 0 (.error c) (.err (by show rInt xs = _; rw [RI.out, if_neg C.out]) C.out rfl) rfl G.out.below)
theorem refnumber_ok (s : Sr) (hs : SrOk s) (w : World) : Calls Try.prog 76 #[srV s] w (RefPost w (· = 0) s rInt (Value.int .i64)) := by
  cases s with
  | ok xs => exact refnumber_yes xs hs.1 hs.2 w
  | error c => exact refnumber_err c hs rInt w
theorem RefPost.elim {α : Type} {w w' : World} {Z : α → Prop} {s : Sr} {f : List Int → Rd α} {V : α → Value} {e : Ending} (h : RefPost w Z s f V e w') :
    ∃ a t T c, SrTo Z s f a t ∧ srT t = T ∧ srC t = c ∧ e = .returned (.tuple #[V a, .agg #[.string T, .int .i64 c]]) ∧ Below w.heap.size w w' := by
  obtain ⟨a, t, h1, h2, h3⟩ := h
  exact ⟨a, t, _, _, h1, rfl, rfl, h2, h3⟩
/-! flag -/
theorem empty_toList : (⟨#[]⟩ : ByteArray).toList = [] := ByteArray.toList_eq _
set_option maxHeartbeats 1600000 in
set_option maxRecDepth 100000 in
theorem refflag_ok (s : Sr) (hs : SrOk s) (w : World) : Calls Try.prog 77 #[srV s] w (RefPost w (· = false) s rFlag Value.bool) := by
  cases s with
  | error c =>
    have H1 := Aside0.mk (((Hw.start w).alloc (.cells #[.string ⟨#[]⟩, .int .i64 c] 151)).alloc (.cells #[.string ⟨#[]⟩, .int .i64 0] 151)).drew
    simp only [World.size_alloc] at H1
    have k0 := H1.out.cellAt w.heap.size 0 (v := .string ⟨#[]⟩) rfl
    have k1 := H1.out.cellAt w.heap.size 1 (v := .int .i64 c) rfl
    have z0 := H1.out.cellAt (w.heap.size + 1) 0 (v := .string ⟨#[]⟩) rfl
    have z1 := H1.out.cellAt (w.heap.size + 1) 1 (v := .int .i64 0) rfl
    have zf := H1.out.freeAt (w.heap.size + 1)
    have C := Aside0.mk (show c ≠ 0 from hs)
    have d1 : (c != 0) = true := by simpa using C.out
    have d2 : (c == 0) = false := by simpa using C.out
    show Calls Try.prog 77 #[.agg #[.string ⟨#[]⟩, .int .i64 c]] w _
    clear hs
    go_enter Try.func77, Try.ntmps77
    go_upto_region 2 with fail
    refine start_ (n := 3) (S := fun w' => w'.cell? ⟨w.heap.size, 0, none⟩ = some (.string ⟨#[]⟩) ∧ w'.cell? ⟨w.heap.size, 1, none⟩ = some (.int .i64 c)) (ds := [2]) #[false, false, false] (by kernel_rfl) rfl rfl ⟨k0, k1⟩ (fun hHeld => ?_)
    refine pure_ (i := 1) (N := some 2) (v := ?_) (a' := ?_) #[false, true, false] rfl rfl (by kernel_rfl) (fun _ _ _ h => h) (Or.inl ⟨by rfl, ?_⟩) ?_ ?_
    rotate_left
    · intro w'
      go_simp
      with_reducible rfl
    rotate_left
    · simp only [Act.put, List.setIfInBounds_toArray, List.set_cons_zero, List.set_cons_succ, i64_w, i32_w]
      rfl
    refine take_ (i := 0) (N := some 7) (v := ?_) (a' := ?_) #[true, true, false] rfl rfl (by kernel_rfl) (fun _ _ _ h => h) (Or.inl ⟨by rfl, ?_⟩) hHeld ?_ ?_
    rotate_left
    · rintro w' ⟨s0, s1⟩
      go_simp
      with_reducible rfl
    rotate_left
    · simp only [Act.put, List.setIfInBounds_toArray, List.set_cons_zero, List.set_cons_succ, i64_w, i32_w]
      rfl
    refine last_ (i := 2) (N := none) #[true, true, true] rfl rfl (by kernel_rfl) (by decide) (fun K hK => ?_)
    refine skip_ (w1 := ?_) (by rfl) rfl ?_ ?_
    rotate_left
    · go_simp
      rfl
    refine hK.out _ _ ?_
    clear hK K
    refine done_ (by kernel_rfl) ?_
    have G := Aside0.mk (((Hw.start w).alloc (.cells #[.string ⟨#[]⟩, .int .i64 c] 151)).alloc (.cells #[.string ⟨#[]⟩, .int .i64 c] 151)).drew
    simp only [World.size_alloc] at G
    clear hHeld k0 k1 z0 z1 zf H1
    go_wp2_with fail
    have y0 := G.out.cellAt (w.heap.size + 1) 0 (v := .string ⟨#[]⟩) rfl
    have y1 := G.out.cellAt (w.heap.size + 1) 1 (v := .int .i64 c) rfl
    exact bodyPost_ret (v := .tuple #[.bool false, .agg #[.string ⟨#[]⟩, .int .i64 c]]) (by simp [results, Try.results77, go_sem, y0, y1]) rfl (.mk false (.error c) (.err rfl C.out rfl) rfl G.out.below)
  | ok xs =>
    obtain ⟨hb, hl⟩ := hs
    cases xs with
    | nil =>
      show Calls Try.prog 77 #[.agg #[.string ⟨#[]⟩, .int .i64 0]] w _
      have G := Aside0.mk (((Hw.start w).alloc (.cells #[.string ⟨#[]⟩, .int .i64 0] 151)).alloc (.cells #[.string ⟨#[]⟩, .int .i64 10] 151))
      simp only [World.size_alloc] at G
      go_enter Try.func77, Try.ntmps77
      go_wp2_with fail
      have y0 := G.out.cellAt (w.heap.size + 1) 0 (v := .string ⟨#[]⟩) rfl
      have y1 := G.out.cellAt (w.heap.size + 1) 1 (v := .int .i64 10) rfl
      exact bodyPost_ret (v := .tuple #[.bool false, .agg #[.string ⟨#[]⟩, .int .i64 10]]) (by simp [results, Try.results77, go_sem, y0, y1]) rfl (.mk false (.error 10) (.err rfl (by decide) rfl) rfl G.out.below)
    | cons x r =>
      obtain ⟨x0, x255⟩ := hb x (.head _)
      have HB := Aside0.mk (show bytes r from fun y hy => hb y (.tail _ hy))
      have HL := Aside0.mk (show r.length ≤ 140737488351232 by simp only [List.length_cons] at hl; omega)
      have hix := tx_index (P := Try.prog) 9 Try.underlying9 (x :: r) .i64 0 0 x rfl rfl ⟨x0, x255⟩
      have hcut := tx_slice_from (P := Try.prog) 9 Try.underlying9 (x :: r) 1 1 rfl (by simp)
      obtain ⟨s, hs⟩ : ∃ s, s = strOfNums (x :: r) := ⟨_, rfl⟩
      obtain ⟨s2, hs2⟩ : ∃ s, s = strOfNums r := ⟨_, rfl⟩
      rw [show List.drop 1 (x :: r) = r from rfl] at hcut
      rw [← hs] at hix hcut
      rw [← hs2] at hcut
      have S2 := Aside0.mk hs2
      have hne : ¬ s.toList = [] := fun h => by
        have h1 : s = ⟨#[]⟩ := tx_toList.mp (by rw [h]; exact empty_toList.symm)
        have h2 := congrArg ByteArray.size h1
        rw [hs, tx_size] at h2
        change r.length + 1 = 0 at h2
        omega
      have hne2 : s.toList.isEmpty = false := by cases hh : s.toList with
        | nil => exact absurd hh hne
        | cons a l => rfl
      have hne3 : (s.toList == []) = false := beq_false_of_ne hne
      show Calls Try.prog 77 #[.agg #[.string (strOfNums (x :: r)), .int .i64 0]] w _
      rw [← hs]
      by_cases hx : 1 < x
      · have d1 : decide ((1 : Int) < x) = true := decide_eq_true hx
        have X := Aside0.mk hx
        have G := Aside0.mk (((Hw.start w).alloc (.cells #[.string s, .int .i64 0] 151)).alloc (.cells #[.string ⟨#[]⟩, .int .i64 22] 151))
        simp only [World.size_alloc] at G
        clear hs hs2 hb hl hx
        go_enter Try.func77, Try.ntmps77
        go_wp2_with fail
        have y0 := G.out.cellAt (w.heap.size + 1) 0 (v := .string ⟨#[]⟩) rfl
        have y1 := G.out.cellAt (w.heap.size + 1) 1 (v := .int .i64 22) rfl
        exact bodyPost_ret (v := .tuple #[.bool false, .agg #[.string ⟨#[]⟩, .int .i64 22]]) (by simp [results, Try.results77, go_sem, y0, y1]) rfl (.mk false (.error 22) (.err (by show rFlag (x :: r) = _; simp only [rFlag]; rw [if_pos X.out]) (by decide) rfl) rfl G.out.below)
      · have d1 : decide ((1 : Int) < x) = false := decide_eq_false hx
        obtain ⟨v, hv⟩ : ∃ v, v = (x == 1) := ⟨_, rfl⟩
        have d3 : (x == 1) = v := hv.symm
        have X := Aside0.mk (show rFlag (x :: r) = .ok (v, r) by simp only [rFlag]; rw [if_neg hx, hv])
        have H1 := Aside0.mk (((Hw.start w).alloc (.cells #[.string s, .int .i64 0] 151)).alloc (.cells #[.string ⟨#[]⟩, .int .i64 0] 151)).drew
        simp only [World.size_alloc] at H1
        have k0 := H1.out.cellAt w.heap.size 0 (v := .string s) rfl
        have z0 := H1.out.cellAt (w.heap.size + 1) 0 (v := .string ⟨#[]⟩) rfl
        have z1 := H1.out.cellAt (w.heap.size + 1) 1 (v := .int .i64 0) rfl
        have zf := H1.out.freeAt (w.heap.size + 1)
        have G := Aside0.mk (((Hw.start w).alloc (.cells #[.string s, .int .i64 0] 151)).alloc (.cells #[.string s2, .int .i64 0] 151)).drew
        simp only [World.size_alloc] at G
        clear hs hs2 hb hl hx hv
        go_enter Try.func77, Try.ntmps77
        go_upto_region 7 with fail
        refine start_ (n := 10) (S := fun w' => w'.cell? ⟨w.heap.size, 0, none⟩ = some (.string s)) (ds := [9]) #[false, false, false, false, false, false, false, false, false, false] (by kernel_rfl) rfl rfl (k0) (fun hHeld => ?_)
        refine pure_ (i := 0) (N := some 17) (v := ?_) (a' := ?_) #[true, false, false, false, false, false, false, false, false, false] rfl rfl (by kernel_rfl) (fun _ _ _ h => h) (Or.inl ⟨by rfl, ?_⟩) ?_ ?_
        rotate_left
        · intro w'
          go_simp
          with_reducible rfl
        rotate_left
        · simp only [Act.put, List.setIfInBounds_toArray, List.set_cons_zero, List.set_cons_succ, i64_w, i32_w]
          rfl
        refine pure_ (i := 4) (N := some 21) (v := ?_) (a' := ?_) #[true, false, false, false, true, false, false, false, false, false] rfl rfl (by kernel_rfl) (fun _ _ _ h => h) (Or.inl ⟨by rfl, ?_⟩) ?_ ?_
        rotate_left
        · intro w'
          go_simp
          with_reducible rfl
        rotate_left
        · simp only [Act.put, List.setIfInBounds_toArray, List.set_cons_zero, List.set_cons_succ, i64_w, i32_w]
          rfl
        refine take_ (i := 1) (N := some 18) (v := ?_) (a' := ?_) #[true, true, false, false, true, false, false, false, false, false] rfl rfl (by kernel_rfl) (fun _ _ _ h => h) (Or.inl ⟨by rfl, ?_⟩) hHeld ?_ ?_
        rotate_left
        · intro w' s0
          go_simp
          with_reducible rfl
        rotate_left
        · simp only [Act.put, List.setIfInBounds_toArray, List.set_cons_zero, List.set_cons_succ, i64_w, i32_w]
          rfl
        refine take_ (i := 2) (N := some 19) (v := ?_) (a' := ?_) #[true, true, true, false, true, false, false, false, false, false] rfl rfl (by kernel_rfl) (fun _ _ _ h => h) (Or.inl ⟨by rfl, ?_⟩) hHeld ?_ ?_
        rotate_left
        · intro w' s0
          go_simp
          with_reducible rfl
        rotate_left
        · simp only [Act.put, List.setIfInBounds_toArray, List.set_cons_zero, List.set_cons_succ, i64_w, i32_w]
          rfl
        refine pure_ (i := 3) (N := some 20) (v := ?_) (a' := ?_) #[true, true, true, true, true, false, false, false, false, false] rfl rfl (by kernel_rfl) (fun _ _ _ h => h) (Or.inl ⟨by rfl, ?_⟩) ?_ ?_
        rotate_left
        · intro w'
          go_simp
          with_reducible rfl
        rotate_left
        · simp only [Act.put, List.setIfInBounds_toArray, List.set_cons_zero, List.set_cons_succ, i64_w, i32_w]
          rfl
        refine pure_ (i := 8) (N := some 2) (v := ?_) (a' := ?_) #[true, true, true, true, true, false, false, false, true, false] rfl rfl (by kernel_rfl) (fun _ _ _ h => h) (Or.inl ⟨by rfl, ?_⟩) ?_ ?_
        rotate_left
        · intro w'
          go_simp
          with_reducible rfl
        rotate_left
        · simp only [Act.put, List.setIfInBounds_toArray, List.set_cons_zero, List.set_cons_succ, i64_w, i32_w]
          rfl
        refine take_ (i := 5) (N := some 22) (v := ?_) (a' := ?_) #[true, true, true, true, true, true, false, false, true, false] rfl rfl (by kernel_rfl) (fun _ _ _ h => h) (Or.inl ⟨by rfl, ?_⟩) hHeld ?_ ?_
        rotate_left
        · intro w' s0
          go_simp
          with_reducible rfl
        rotate_left
        · simp only [Act.put, List.setIfInBounds_toArray, List.set_cons_zero, List.set_cons_succ, i64_w, i32_w]
          rfl
        refine pure_ (i := 6) (N := some 23) (v := ?_) (a' := ?_) #[true, true, true, true, true, true, true, false, true, false] rfl rfl (by kernel_rfl) (fun _ _ _ h => h) (Or.inl ⟨by rfl, ?_⟩) ?_ ?_
        rotate_left
        · intro w'
          go_simp
          with_reducible rfl
        rotate_left
        · simp only [Act.put, List.setIfInBounds_toArray, List.set_cons_zero, List.set_cons_succ, i64_w, i32_w]
          rfl
        refine pure_ (i := 7) (N := some 24) (v := ?_) (a' := ?_) #[true, true, true, true, true, true, true, true, true, false] rfl rfl (by kernel_rfl) (fun _ _ _ h => h) (Or.inl ⟨by rfl, ?_⟩) ?_ ?_
        rotate_left
        · intro w'
          go_simp
          with_reducible rfl
        rotate_left
        · simp only [Act.put, List.setIfInBounds_toArray, List.set_cons_zero, List.set_cons_succ, i64_w, i32_w]
          rfl
        refine last_ (i := 9) (N := none) #[true, true, true, true, true, true, true, true, true, true] rfl rfl (by kernel_rfl) (by decide) (fun K hK => ?_)
        refine skip_ (w1 := ?_) (by rfl) rfl ?_ ?_
        rotate_left
        · go_simp
          rfl
        refine hK.out _ _ ?_
        clear hK K
        refine done_ (by kernel_rfl) ?_
        clear hHeld k0 z0 z1 zf H1
        go_wp2_with fail
        have y0 := G.out.cellAt (w.heap.size + 1) 0 (v := .string s2) rfl
        have y1 := G.out.cellAt (w.heap.size + 1) 1 (v := .int .i64 0) rfl
        exact bodyPost_ret (v := .tuple #[.bool v, .agg #[.string s2, .int .i64 0]]) (by simp [results, Try.results77, go_sem, y0, y1]) rfl (.mk v (.ok r) (.yes X.out HB.out HL.out) (by rw [S2.out]; rfl) G.out.below)
/-! count -/
set_option maxHeartbeats 1600000 in
set_option maxRecDepth 100000 in
theorem refcount_ok (m : Int) (s : Sr) (hs : SrOk s) (w : World) : Calls Try.prog 78 #[srV s, .int .i64 m] w (RefPost w (· = 0) s (rCount m) (fun n : Nat => Value.int .i64 n)) := by
  obtain ⟨T, hT⟩ : ∃ T, srT s = T := ⟨_, rfl⟩
  obtain ⟨c, hc⟩ : ∃ c, srC s = c := ⟨_, rfl⟩
  have RN := Aside0.mk (refnumber_ok s hs)
  simp only [srV, hT, hc] at RN
  show Calls Try.prog 78 #[.agg #[.string (srT s), .int .i64 (srC s)], .int .i64 m] w _
  rw [hT, hc]
  have CE := Aside0.mk (rcount_eq m s)
  have H1 := Aside0.mk (((Hw.start w).alloc (.cells #[.string T, .int .i64 c] 151)).alloc (.cells #[.string ⟨#[]⟩, .int .i64 0] 151))
  simp only [World.size_alloc] at H1
  have k0 := H1.out.cellAt w.heap.size 0 (v := .string T) rfl
  have k1 := H1.out.cellAt w.heap.size 1 (v := .int .i64 c) rfl
  clear hT hc hs
  go_enter Try.func78, Try.ntmps78
  go_wp2_with fail
  refine (RN.out _).mono fun e w1 h => ?_
  obtain ⟨a, t, T2, c2, hto, hT2, hc2, rfl, hbel⟩ := h.elim
  clear h
  have H2 := Aside0.mk (H1.out.from_below hbel)
  have k0 := H2.out.cellAt w.heap.size 0 (v := .string T) rfl
  have k1 := H2.out.cellAt w.heap.size 1 (v := .int .i64 c) rfl
  have kf := H2.out.freeAt w.heap.size
  have H3 := Aside0.mk (((H2.out.atB w.heap.size).set 0 (.string T2)).set 1 (.int .i64 c2))
  have j0 := H3.out.drew.cellAt w.heap.size 0 (v := .string T2) rfl
  have j1 := H3.out.drew.cellAt w.heap.size 1 (v := .int .i64 c2) rfl
  have z0 := H2.out.cellAt (w.heap.size + 1) 0 (v := .string ⟨#[]⟩) rfl
  have z1 := H2.out.cellAt (w.heap.size + 1) 1 (v := .int .i64 0) rfl
  have zf := H2.out.freeAt (w.heap.size + 1)
  clear hbel H1 RN
  have HTO := Aside0.mk hto
  have TT := Aside0.mk hT2
  have TC := Aside0.mk hc2
  rcases t with c' | ys
  · obtain rfl : c' = c2 := hc2
    obtain ⟨h1, rfl⟩ := hto.of_err
    have C := Aside0.mk (show c' ≠ 0 from hto.ok)
    have d1 : (c' != 0) = true := by simpa using C.out
    have d2 : (c' == 0) = false := by simpa using C.out
    have E1 := Aside0.mk (show srB s (rCount m) = .error c' by rw [CE.out, h1])
    have G := Aside0.mk (((H3.out.atB (w.heap.size + 1)).set 0 (.string T2)).set 1 (.int .i64 c')).drew
    clear hto h1 CE hT2 HTO H2
    go_upto_region 4 with fail
    refine start_ (n := 4) (S := fun w' => w'.cell? ⟨w.heap.size, 0, none⟩ = some (.string T2) ∧ w'.cell? ⟨w.heap.size, 1, none⟩ = some (.int .i64 c')) (ds := [3]) #[false, false, false, false] (by kernel_rfl) rfl rfl ⟨j0, j1⟩ (fun hHeld => ?_)
    refine pure_ (i := 0) (N := some 25) (v := ?_) (a' := ?_) #[true, false, false, false] rfl rfl (by kernel_rfl) (fun _ _ _ h => h) (Or.inl ⟨by rfl, ?_⟩) ?_ ?_
    rotate_left
    · intro w'
      go_simp
      with_reducible rfl
    rotate_left
    · simp only [Act.put, List.setIfInBounds_toArray, List.set_cons_zero, List.set_cons_succ, i64_w, i32_w]
      rfl
    refine pure_ (i := 2) (N := some 4) (v := ?_) (a' := ?_) #[true, false, true, false] rfl rfl (by kernel_rfl) (fun _ _ _ h => h) (Or.inl ⟨by rfl, ?_⟩) ?_ ?_
    rotate_left
    · intro w'
      go_simp
      with_reducible rfl
    rotate_left
    · simp only [Act.put, List.setIfInBounds_toArray, List.set_cons_zero, List.set_cons_succ, i64_w, i32_w]
      rfl
    refine take_ (i := 1) (N := some 26) (v := ?_) (a' := ?_) #[true, true, true, false] rfl rfl (by kernel_rfl) (fun _ _ _ h => h) (Or.inl ⟨by rfl, ?_⟩) hHeld ?_ ?_
    rotate_left
    · rintro w' ⟨s0, s1⟩
      go_simp
      with_reducible rfl
    rotate_left
    · simp only [Act.put, List.setIfInBounds_toArray, List.set_cons_zero, List.set_cons_succ, i64_w, i32_w]
      rfl
    refine last_ (i := 3) (N := none) #[true, true, true, true] rfl rfl (by kernel_rfl) (by decide) (fun K hK => ?_)
    refine skip_ (w1 := ?_) (by rfl) rfl ?_ ?_
    rotate_left
    · go_simp
      rfl
    refine hK.out _ _ ?_
    clear hK K
    refine done_ (by kernel_rfl) ?_
    clear hHeld j0 j1 z0 z1 zf k0 k1 kf H3
    go_wp2_with fail
    have y0 := G.out.cell (i := 0) (v := .string T2) rfl
    have y1 := G.out.cell (i := 1) (v := .int .i64 c') rfl
    exact bodyPost_ret (v := .tuple #[.int .i64 0, .agg #[.string T2, .int .i64 c']]) (by simp [results, Try.results78, go_sem, y0, y1]) rfl (.mk 0 (.error c') (.err E1.out C.out rfl) (by rw [← TT.out]; rfl) G.out.below)
  · obtain rfl : 0 = c2 := hc2
    have h1 := hto.of_ok
    obtain ⟨hby, hly⟩ := hto.ok
    have HB := Aside0.mk hby
    have HL := Aside0.mk hly
    by_cases hr : a < 0 ∨ m < a
    · have E1 := Aside0.mk (show srB s (rCount m) = .error 2 by rw [CE.out, h1]; exact if_pos hr)
      have G := Aside0.mk (((H3.out.atB (w.heap.size + 1)).set 0 (.string ⟨#[]⟩)).set 1 (.int .i64 2))
      clear hto h1 CE hby hly hT2 HTO H2 H3 j0 j1
      by_cases ha : a < 0
      · have d1 : decide (a < 0) = true := decide_eq_true ha
        clear hr
        go_wp2_with fail
        have y0 := G.out.cell (i := 0) (v := .string ⟨#[]⟩) rfl
        have y1 := G.out.cell (i := 1) (v := .int .i64 2) rfl
        exact bodyPost_ret (v := .tuple #[.int .i64 0, .agg #[.string ⟨#[]⟩, .int .i64 2]]) (by simp [results, Try.results78, go_sem, y0, y1]) rfl (.mk 0 (.error 2) (.err E1.out (by decide) rfl) rfl G.out.below)
      · have d1 : decide (a < 0) = false := decide_eq_false ha
        have d2 : decide (m < a) = true := decide_eq_true (by omega)
        clear hr
        go_wp2_with fail
        have y0 := G.out.cell (i := 0) (v := .string ⟨#[]⟩) rfl
        have y1 := G.out.cell (i := 1) (v := .int .i64 2) rfl
        exact bodyPost_ret (v := .tuple #[.int .i64 0, .agg #[.string ⟨#[]⟩, .int .i64 2]]) (by simp [results, Try.results78, go_sem, y0, y1]) rfl (.mk 0 (.error 2) (.err E1.out (by decide) rfl) rfl G.out.below)
    · have E1 := Aside0.mk (show srB s (rCount m) = .ok (a.toNat, ys) by rw [CE.out, h1]; exact if_neg hr)
      obtain ⟨n, rfl⟩ : ∃ n : Nat, a = n := ⟨a.toNat, by omega⟩
      have d1 : decide ((n : Int) < 0) = false := decide_eq_false (by omega)
      have d2 : decide (m < (n : Int)) = false := decide_eq_false (by omega)
      have G := Aside0.mk (((H3.out.atB (w.heap.size + 1)).set 0 (.string T2)).set 1 (.int .i64 0)).drew
      clear hto h1 CE hby hly hT2 HTO H2 hr
      go_upto_region 4 with fail
      refine start_ (n := 4) (S := fun w' => w'.cell? ⟨w.heap.size, 0, none⟩ = some (.string T2) ∧ w'.cell? ⟨w.heap.size, 1, none⟩ = some (.int .i64 0)) (ds := [3]) #[false, false, false, false] (by kernel_rfl) rfl rfl ⟨j0, j1⟩ (fun hHeld => ?_)
      refine pure_ (i := 0) (N := some 25) (v := ?_) (a' := ?_) #[true, false, false, false] rfl rfl (by kernel_rfl) (fun _ _ _ h => h) (Or.inl ⟨by rfl, ?_⟩) ?_ ?_
      rotate_left
      · intro w'
        go_simp
        with_reducible rfl
      rotate_left
      · simp only [Act.put, List.setIfInBounds_toArray, List.set_cons_zero, List.set_cons_succ, i64_w, i32_w]
        rfl
      refine pure_ (i := 2) (N := some 4) (v := ?_) (a' := ?_) #[true, false, true, false] rfl rfl (by kernel_rfl) (fun _ _ _ h => h) (Or.inl ⟨by rfl, ?_⟩) ?_ ?_
      rotate_left
      · intro w'
        go_simp
        with_reducible rfl
      rotate_left
      · simp only [Act.put, List.setIfInBounds_toArray, List.set_cons_zero, List.set_cons_succ, i64_w, i32_w]
        rfl
      refine take_ (i := 1) (N := some 26) (v := ?_) (a' := ?_) #[true, true, true, false] rfl rfl (by kernel_rfl) (fun _ _ _ h => h) (Or.inl ⟨by rfl, ?_⟩) hHeld ?_ ?_
      rotate_left
      · rintro w' ⟨s0, s1⟩
        go_simp
        with_reducible rfl
      rotate_left
      · simp only [Act.put, List.setIfInBounds_toArray, List.set_cons_zero, List.set_cons_succ, i64_w, i32_w]
        rfl
      refine last_ (i := 3) (N := none) #[true, true, true, true] rfl rfl (by kernel_rfl) (by decide) (fun K hK => ?_)
      refine skip_ (w1 := ?_) (by rfl) rfl ?_ ?_
      rotate_left
      · go_simp
        rfl
      refine hK.out _ _ ?_
      clear hK K
      refine done_ (by kernel_rfl) ?_
      clear hHeld j0 j1 z0 z1 zf k0 k1 kf H3
      go_wp2_with fail
      have y0 := G.out.cell (i := 0) (v := .string T2) rfl
      have y1 := G.out.cell (i := 1) (v := .int .i64 0) rfl
      exact bodyPost_ret (v := .tuple #[.int .i64 n, .agg #[.string T2, .int .i64 0]]) (by simp [results, Try.results78, go_sem, y0, y1]) rfl (.mk n (.ok ys) (.yes E1.out HB.out HL.out) (by rw [← TT.out]; rfl) G.out.below)
/-! text -/
theorem rtake_yes {n : Nat} {ys : List Int} (h : n ≤ ys.length) : rTake n ys = .ok (ys.take n, ys.drop n) := by unfold rTake; rw [if_neg (by omega)]
theorem rtake_no {n : Nat} {ys : List Int} (h : ys.length < n) : rTake n ys = .error 10 := by unfold rTake; rw [if_pos h]
set_option maxHeartbeats 3200000 in
set_option maxRecDepth 100000 in
theorem reftext_ok (s : Sr) (hs : SrOk s) (w : World) : Calls Try.prog 123 #[srV s] w (RefPost w (fun _ => True) s rText Value.string) := by
  have RN := Aside0.mk (refcount_ok 128 s hs)
  obtain ⟨T, hT⟩ : ∃ T, srT s = T := ⟨_, rfl⟩
  obtain ⟨c, hc⟩ : ∃ c, srC s = c := ⟨_, rfl⟩
  simp only [srV, hT, hc] at RN
  show Calls Try.prog 123 #[.agg #[.string (srT s), .int .i64 (srC s)]] w _
  rw [hT, hc]
  have CE := Aside0.mk (rtext_eq s)
  have H1 := Aside0.mk (((Hw.start w).alloc (.cells #[.string T, .int .i64 c] 151)).alloc (.cells #[.string ⟨#[]⟩, .int .i64 0] 151))
  simp only [World.size_alloc] at H1
  have k0 := H1.out.cellAt w.heap.size 0 (v := .string T) rfl
  have k1 := H1.out.cellAt w.heap.size 1 (v := .int .i64 c) rfl
  clear hT hc hs
  go_enter Try.func123, Try.ntmps123
  go_wp2_with fail
  refine (RN.out _).mono fun e w1 h => ?_
  obtain ⟨n, t, T2, c2, hto, hT2, hc2, rfl, hbel⟩ := h.elim
  clear h
  have H2 := Aside0.mk (H1.out.from_below hbel)
  have k0 := H2.out.cellAt w.heap.size 0 (v := .string T) rfl
  have k1 := H2.out.cellAt w.heap.size 1 (v := .int .i64 c) rfl
  have kf := H2.out.freeAt w.heap.size
  have H3 := Aside0.mk (((H2.out.atB w.heap.size).set 0 (.string T2)).set 1 (.int .i64 c2))
  have j0 := H3.out.drew.cellAt w.heap.size 0 (v := .string T2) rfl
  have j1 := H3.out.drew.cellAt w.heap.size 1 (v := .int .i64 c2) rfl
  have z0 := H2.out.cellAt (w.heap.size + 1) 0 (v := .string ⟨#[]⟩) rfl
  have z1 := H2.out.cellAt (w.heap.size + 1) 1 (v := .int .i64 0) rfl
  have zf := H2.out.freeAt (w.heap.size + 1)
  clear hbel H1 RN
  have TT := Aside0.mk hT2
  rcases t with c' | ys
  · obtain rfl : c' = c2 := hc2
    obtain ⟨h1, rfl⟩ := hto.of_err
    have C := Aside0.mk (show c' ≠ 0 from hto.ok)
    have d1 : (c' != 0) = true := by simpa using C.out
    have d2 : (c' == 0) = false := by simpa using C.out
    have E1 := Aside0.mk (show srB s rText = .error c' by rw [CE.out, h1])
    have G := Aside0.mk (((H3.out.atB (w.heap.size + 1)).set 0 (.string T2)).set 1 (.int .i64 c')).drew
    clear hto h1 CE hT2 H2
    go_upto_region 5 with fail
    refine start_ (n := 3) (S := fun w' => w'.cell? ⟨w.heap.size, 0, none⟩ = some (.string T2) ∧ w'.cell? ⟨w.heap.size, 1, none⟩ = some (.int .i64 c')) (ds := [2]) #[false, false, false] (by kernel_rfl) rfl rfl ⟨j0, j1⟩ (fun hHeld => ?_)
    refine pure_ (i := 1) (N := some 2) (v := ?_) (a' := ?_) #[false, true, false] rfl rfl (by kernel_rfl) (fun _ _ _ h => h) (Or.inl ⟨by rfl, ?_⟩) ?_ ?_
    rotate_left
    · intro w'
      go_simp
      with_reducible rfl
    rotate_left
    · simp only [Act.put, List.setIfInBounds_toArray, List.set_cons_zero, List.set_cons_succ, i64_w, i32_w]
      rfl
    refine take_ (i := 0) (N := some 24) (v := ?_) (a' := ?_) #[true, true, false] rfl rfl (by kernel_rfl) (fun _ _ _ h => h) (Or.inl ⟨by rfl, ?_⟩) hHeld ?_ ?_
    rotate_left
    · rintro w' ⟨s0, s1⟩
      go_simp
      with_reducible rfl
    rotate_left
    · simp only [Act.put, List.setIfInBounds_toArray, List.set_cons_zero, List.set_cons_succ, i64_w, i32_w]
      rfl
    refine last_ (i := 2) (N := none) #[true, true, true] rfl rfl (by kernel_rfl) (by decide) (fun K hK => ?_)
    refine skip_ (w1 := ?_) (by rfl) rfl ?_ ?_
    rotate_left
    · go_simp
      rfl
    refine hK.out _ _ ?_
    clear hK K
    refine done_ (by kernel_rfl) ?_
    clear hHeld j0 j1 z0 z1 zf k0 k1 kf H3
    go_wp2_with fail
    have y0 := G.out.cellAt (w.heap.size + 1) 0 (v := .string T2) rfl
    have y1 := G.out.cellAt (w.heap.size + 1) 1 (v := .int .i64 c') rfl
    exact bodyPost_ret (v := .tuple #[.string ⟨#[]⟩, .agg #[.string T2, .int .i64 c']]) (by simp [results, Try.results123, go_sem, y0, y1]) rfl (.mk ⟨#[]⟩ (.error c') (.err E1.out C.out trivial) (by rw [← TT.out]; rfl) G.out.below)
  · obtain rfl : 0 = c2 := hc2
    have h1 := hto.of_ok
    obtain ⟨hby, hly⟩ := hto.ok
    have HB := Aside0.mk hby
    have HL := Aside0.mk hly
    have hT3 : T2 = strOfNums ys := hT2.symm
    obtain ⟨m, hm⟩ : ∃ m, T2.size = m := ⟨_, rfl⟩
    have hym : ys.length = m := by rw [← hm, hT3, tx_size]
    by_cases hr : n ≤ m
    · have E1 := Aside0.mk (show srB s rText = .ok (strOfNums (ys.take n), ys.drop n) by rw [CE.out, h1]; simp only [rtake_yes (show n ≤ ys.length by omega)])
      have d2 : decide (m < n) = false := decide_eq_false (by omega)
      have d2' : decide ((m : Int) < (n : Int)) = false := decide_eq_false (by omega)
      have hcut := tx_slice_from (P := Try.prog) 9 Try.underlying9 ys (n : Int) n rfl (by omega)
      have hcut2 := tx_slice_to (P := Try.prog) 9 Try.underlying9 ys (n : Int) n rfl (by omega)
      rw [← hT3] at hcut hcut2
      obtain ⟨s2, hs2⟩ : ∃ s2, s2 = strOfNums (ys.drop n) := ⟨_, rfl⟩
      obtain ⟨s1, hs1⟩ : ∃ s2, s2 = strOfNums (ys.take n) := ⟨_, rfl⟩
      rw [← hs2] at hcut
      rw [← hs1] at hcut2
      have S2 := Aside0.mk hs2
      have S1 := Aside0.mk hs1
      have kb1 : (0 : Int) ≤ (n : Int) := by omega
      have G := Aside0.mk (((H3.out.atB (w.heap.size + 1)).set 0 (.string s2)).set 1 (.int .i64 0)).drew
      clear hto h1 CE hby hly hT2 H2 hr hs1 hs2 hT3 hym
      go_upto_region 6 with fail
      refine start_ (n := 11) (S := fun w' => w'.cell? ⟨w.heap.size, 0, none⟩ = some (.string T2)) (ds := [10]) #[false, false, false, false, false, false, false, false, false, false, false] (by kernel_rfl) rfl rfl (j0) (fun hHeld => ?_)
      refine pure_ (i := 0) (N := some 25) (v := ?_) (a' := ?_) #[true, false, false, false, false, false, false, false, false, false, false] rfl rfl (by kernel_rfl) (fun _ _ _ h => h) (Or.inl ⟨by rfl, ?_⟩) ?_ ?_
      rotate_left
      · intro w'
        go_simp
        with_reducible rfl
      rotate_left
      · simp only [Act.put, List.setIfInBounds_toArray, List.set_cons_zero, List.set_cons_succ, i64_w, i32_w]
        rfl
      refine pure_ (i := 2) (N := some 27) (v := ?_) (a' := ?_) #[true, false, true, false, false, false, false, false, false, false, false] rfl rfl (by kernel_rfl) (fun _ _ _ h => h) (Or.inl ⟨by rfl, ?_⟩) ?_ ?_
      rotate_left
      · intro w'
        go_simp
        with_reducible rfl
      rotate_left
      · simp only [Act.put, List.setIfInBounds_toArray, List.set_cons_zero, List.set_cons_succ, i64_w, i32_w]
        rfl
      refine pure_ (i := 4) (N := some 29) (v := ?_) (a' := ?_) #[true, false, true, false, true, false, false, false, false, false, false] rfl rfl (by kernel_rfl) (fun _ _ _ h => h) (Or.inl ⟨by rfl, ?_⟩) ?_ ?_
      rotate_left
      · intro w'
        go_simp
        with_reducible rfl
      rotate_left
      · simp only [Act.put, List.setIfInBounds_toArray, List.set_cons_zero, List.set_cons_succ, i64_w, i32_w]
        rfl
      refine pure_ (i := 6) (N := some 31) (v := ?_) (a' := ?_) #[true, false, true, false, true, false, true, false, false, false, false] rfl rfl (by kernel_rfl) (fun _ _ _ h => h) (Or.inl ⟨by rfl, ?_⟩) ?_ ?_
      rotate_left
      · intro w'
        go_simp
        with_reducible rfl
      rotate_left
      · simp only [Act.put, List.setIfInBounds_toArray, List.set_cons_zero, List.set_cons_succ, i64_w, i32_w]
        rfl
      refine take_ (i := 1) (N := some 26) (v := ?_) (a' := ?_) #[true, true, true, false, true, false, true, false, false, false, false] rfl rfl (by kernel_rfl) (fun _ _ _ h => h) (Or.inl ⟨by rfl, ?_⟩) hHeld ?_ ?_
      rotate_left
      · intro w' s0
        go_simp
        with_reducible rfl
      rotate_left
      · simp only [Act.put, List.setIfInBounds_toArray, List.set_cons_zero, List.set_cons_succ, i64_w, i32_w]
        rfl
      refine pure_ (i := 3) (N := some 28) (v := ?_) (a' := ?_) #[true, true, true, true, true, false, true, false, false, false, false] rfl rfl (by kernel_rfl) (fun _ _ _ h => h) (Or.inl ⟨by rfl, ?_⟩) ?_ ?_
      rotate_left
      · intro w'
        go_simp
        with_reducible rfl
      rotate_left
      · simp only [Act.put, List.setIfInBounds_toArray, List.set_cons_zero, List.set_cons_succ, i64_w, i32_w]
        rfl
      refine pure_ (i := 9) (N := some 2) (v := ?_) (a' := ?_) #[true, true, true, true, true, false, true, false, false, true, false] rfl rfl (by kernel_rfl) (fun _ _ _ h => h) (Or.inl ⟨by rfl, ?_⟩) ?_ ?_
      rotate_left
      · intro w'
        go_simp
        with_reducible rfl
      rotate_left
      · simp only [Act.put, List.setIfInBounds_toArray, List.set_cons_zero, List.set_cons_succ, i64_w, i32_w]
        rfl
      refine take_ (i := 5) (N := some 30) (v := ?_) (a' := ?_) #[true, true, true, true, true, true, true, false, false, true, false] rfl rfl (by kernel_rfl) (fun _ _ _ h => h) (Or.inl ⟨by rfl, ?_⟩) hHeld ?_ ?_
      rotate_left
      · intro w' s0
        go_simp
        with_reducible rfl
      rotate_left
      · simp only [Act.put, List.setIfInBounds_toArray, List.set_cons_zero, List.set_cons_succ, i64_w, i32_w]
        rfl
      refine pure_ (i := 7) (N := some 32) (v := ?_) (a' := ?_) #[true, true, true, true, true, true, true, true, false, true, false] rfl rfl (by kernel_rfl) (fun _ _ _ h => h) (Or.inl ⟨by rfl, ?_⟩) ?_ ?_
      rotate_left
      · intro w'
        go_simp
        with_reducible rfl
      rotate_left
      · simp only [Act.put, List.setIfInBounds_toArray, List.set_cons_zero, List.set_cons_succ, i64_w, i32_w]
        rfl
      refine pure_ (i := 8) (N := some 33) (v := ?_) (a' := ?_) #[true, true, true, true, true, true, true, true, true, true, false] rfl rfl (by kernel_rfl) (fun _ _ _ h => h) (Or.inl ⟨by rfl, ?_⟩) ?_ ?_
      rotate_left
      · intro w'
        go_simp
        with_reducible rfl
      rotate_left
      · simp only [Act.put, List.setIfInBounds_toArray, List.set_cons_zero, List.set_cons_succ, i64_w, i32_w]
        rfl
      refine last_ (i := 10) (N := none) #[true, true, true, true, true, true, true, true, true, true, true] rfl rfl (by kernel_rfl) (by decide) (fun K hK => ?_)
      refine skip_ (w1 := ?_) (by rfl) rfl ?_ ?_
      rotate_left
      · go_simp
        rfl
      refine hK.out _ _ ?_
      clear hK K
      refine done_ (by kernel_rfl) ?_
      clear hHeld j0 j1 z0 z1 zf k0 k1 kf H3
      go_wp2_with fail
      have y0 := G.out.cellAt (w.heap.size + 1) 0 (v := .string s2) rfl
      have y1 := G.out.cellAt (w.heap.size + 1) 1 (v := .int .i64 0) rfl
      exact bodyPost_ret (v := .tuple #[.string s1, .agg #[.string s2, .int .i64 0]]) (by simp [results, Try.results123, go_sem, y0, y1]) rfl (.mk s1 (.ok (ys.drop n)) (.yes (by rw [S1.out]; exact E1.out) (bytes_drop HB.out n) (by rw [List.length_drop]; have := HL.out; omega)) (by rw [S2.out]; rfl) G.out.below)
    · have E1 := Aside0.mk (show srB s rText = .error 10 by rw [CE.out, h1]; simp only [rtake_no (show ys.length < n by omega)])
      have d2 : decide (m < n) = true := decide_eq_true (by omega)
      have d2' : decide ((m : Int) < (n : Int)) = true := decide_eq_true (by omega)
      have G := Aside0.mk (((H3.out.atB (w.heap.size + 1)).set 0 (.string ⟨#[]⟩)).set 1 (.int .i64 10))
      clear hto h1 CE hby hly hT2 H2 hr H3 hT3 hym j0 j1
      go_wp2_with fail
      have y0 := G.out.cellAt (w.heap.size + 1) 0 (v := .string ⟨#[]⟩) rfl
      have y1 := G.out.cellAt (w.heap.size + 1) 1 (v := .int .i64 10) rfl
      exact bodyPost_ret (v := .tuple #[.string ⟨#[]⟩, .agg #[.string ⟨#[]⟩, .int .i64 10]]) (by simp [results, Try.results123, go_sem, y0, y1]) rfl (.mk ⟨#[]⟩ (.error 10) (.err E1.out (by decide) trivial) rfl G.out.below)
end Go.Proofs.Ytckdkbjobipniaa
