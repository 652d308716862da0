/- Numbers written are read again; how many bytes they have: plain. -/
import Derived.Test.YtckdkbjobipniaaCA
import Derived.Test.YtckdkbjobipniaaCB
import Derived.Test.YtckdkbjobipniaaBA
set_option linter.unusedVariables false
set_option linter.unusedSimpArgs false
namespace Go.Proofs.Ytckdkbjobipniaa
set_option maxRecDepth 100000 in
theorem gget_venc : ∀ (u i acc : Nat) (ys : List Int), i ≤ 9 → u * 128 ^ i < 18446744073709551616 → (u = 0 → i = 0) → gget i acc (venc u ++ ys) = (zag (acc + u * 128 ^ i), (i : Int) + (venc u).length, 0) := by
  intro u
  induction u using Nat.strongRecOn with
  | _ u ih =>
    intro i acc ys hi hu h0
    have p9 : (128 : Nat) ^ 9 = 9223372036854775808 := by decide
    by_cases h : u < 128
    · rw [venc_lt h]
      show gget i acc ((u : Int) :: ys) = _
      unfold gget
      rw [if_neg, if_pos (by omega), if_neg]
      · simp
      · rintro ⟨h1, h2⟩
        have := h0 (by omega)
        omega
      · rintro ⟨h1, h2⟩
        subst h1
        rw [p9] at hu
        omega
    · rw [venc_ge (by omega)]
      show gget i acc (((u % 128 + 128 : Nat) : Int) :: (venc (u / 128) ++ ys)) = _
      have hi8 : i ≤ 8 := by
        rcases Nat.lt_or_ge i 9 with h1 | h1
        · omega
        · have : i = 9 := by omega
          subst this
          rw [p9] at hu
          omega
      unfold gget
      rw [if_neg (by omega), if_neg (by omega)]
      have e1 : (((u % 128 + 128 : Nat) : Int).toNat - 128) = u % 128 := by omega
      have e2 : u / 128 * 128 ^ (i + 1) + u % 128 * 128 ^ i = u * 128 ^ i := by
        rw [Nat.pow_succ, ← Nat.mul_assoc, Nat.mul_right_comm, ← Nat.add_mul]
        congr 1
        omega
      rw [e1, ih (u / 128) (by omega) (i + 1) _ ys (by omega) (by omega) (by omega)]
      have e3 : acc + u % 128 * 128 ^ i + u / 128 * 128 ^ (i + 1) = acc + u * 128 ^ i := by omega
      rw [e3]
      simp only [List.length_cons]
      congr 2
      omega
set_option maxRecDepth 100000 in
theorem getI_enc (n : Int) (h : i64r n) (ys : List Int) : getI (encI n ++ ys) = (n, ((encI n).length : Int), 0) := by
  unfold getI encI
  rw [gget_venc (zig n) 0 0 ys (by decide) (by simpa using zig_lt n h) (fun _ => rfl)]
  simp [zag_zig]
end Go.Proofs.Ytckdkbjobipniaa

/- What is written is read, what is read was written, cut short nothing is read: plain. -/
set_option linter.unusedVariables false
set_option linter.unusedSimpArgs false
namespace Go.Proofs.Ytckdkbjobipniaa
/-- Things written and read. -/
structure Codec {α : Type} (R : List Int → Rd α) (E : α → List Int) (ok : α → Prop) : Prop where
  fwd : ∀ a, ok a → ∀ ys, R (E a ++ ys) = .ok (a, ys)
  bwd : ∀ xs a ys, bytes xs → R xs = .ok (a, ys) → ok a ∧ xs = E a ++ ys
  cut : ∀ a, ok a → ∀ k, k < (E a).length → R ((E a).take k) = .error 10
theorem bytes_right {xs ys : List Int} (h : bytes (xs ++ ys)) : bytes ys := fun x hx => h x (List.mem_append_right _ hx)
/-! ### Numbers -/
theorem gget_cut : ∀ (u i acc k : Nat), k < (venc u).length → i + k ≤ 9 → gget i acc ((venc u).take k) = (0, 0, 10) := by
  intro u
  induction u using Nat.strongRecOn with
  | _ u ih =>
    intro i acc k hk hi
    cases k with
    | zero => rfl
    | succ k =>
      by_cases h : u < 128
      · rw [venc_lt h] at hk
        simp at hk
      · rw [venc_ge (by omega)] at hk ⊢
        rw [List.take_succ_cons]
        unfold gget
        rw [if_neg (by omega), if_neg (by omega)]
        exact ih (u / 128) (by omega) (i + 1) _ k (by simpa using hk) (by omega)
set_option maxRecDepth 100000 in
theorem gget_inv : ∀ (xs : List Int) (i acc : Nat) (n sz : Int), bytes xs → i ≤ 9 → acc < 128 ^ i → gget i acc xs = (n, sz, 0) → ∃ u : Nat, n = zag (acc + u * 128 ^ i) ∧ acc + u * 128 ^ i < 18446744073709551616 ∧ (u = 0 → i = 0) ∧ sz = i + (venc u).length ∧ xs = venc u ++ xs.drop (venc u).length
  | [], i, acc, n, sz, _, _, _, h => by
    simp [gget] at h
  | x :: xs, i, acc, n, sz, hb, hi, ha, h => by
    have p9 : (128 : Nat) ^ 9 = 9223372036854775808 := by decide
    obtain ⟨x0, x1⟩ := hb x (by simp)
    unfold gget at h
    by_cases c1 : i = 9 ∧ 1 < x
    · rw [if_pos c1] at h
      simp at h
    · rw [if_neg c1] at h
      by_cases c2 : x < 128
      · rw [if_pos c2] at h
        by_cases c3 : x = 0 ∧ 0 < i
        · rw [if_pos c3] at h
          simp at h
        · rw [if_neg c3] at h
          simp only [Prod.mk.injEq] at h
          obtain ⟨h1, h2, _⟩ := h
          have hv := venc_lt (u := x.toNat) (by omega)
          refine ⟨x.toNat, h1.symm, ?_, fun h0 => by omega, by rw [hv]; simp; omega, by rw [hv]; simp; omega⟩
          by_cases h9 : i = 9
          · subst h9
            have : x.toNat ≤ 1 := by omega
            have := Nat.mul_le_mul_right (128 ^ 9) this
            omega
          · have h8 : (128 : Nat) ^ i ≤ 128 ^ 8 := Nat.pow_le_pow_right (by decide) (by omega)
            have e8 : (128 : Nat) ^ 8 = 72057594037927936 := by decide
            have : x.toNat ≤ 127 := by omega
            have := Nat.mul_le_mul_right (128 ^ i) this
            omega
      · rw [if_neg c2] at h
        have hi8 : i ≤ 8 := by omega
        have e1 : (x.toNat - 128) * 128 ^ i ≤ 127 * 128 ^ i := Nat.mul_le_mul_right _ (by omega)
        obtain ⟨u, h1, h2, h3, h4, h5⟩ := gget_inv xs (i + 1) _ n sz (fun y hy => hb y (.tail _ hy)) (by omega) (by rw [Nat.pow_succ]; omega) h
        have hu : 0 < u := by
          rcases Nat.eq_zero_or_pos u with h0 | h0
          · have := h3 h0; omega
          · exact h0
        have hd : (u * 128 + (x.toNat - 128)) / 128 = u := by omega
        have hv := venc_ge (u := u * 128 + (x.toNat - 128)) (by omega)
        rw [hd, show (u * 128 + (x.toNat - 128)) % 128 + 128 = x.toNat by omega] at hv
        have e2 : acc + (x.toNat - 128) * 128 ^ i + u * 128 ^ (i + 1) = acc + (u * 128 + (x.toNat - 128)) * 128 ^ i := by
          rw [Nat.pow_succ, Nat.add_mul, ← Nat.mul_assoc, Nat.mul_right_comm u]
          omega
        rw [e2] at h1 h2
        refine ⟨u * 128 + (x.toNat - 128), h1, h2, fun h0 => by omega, by rw [hv, List.length_cons, h4]; push_cast; omega, ?_⟩
        rw [hv, List.length_cons, List.drop_succ_cons, List.cons_append, ← h5]
        congr 1
        omega
theorem cInt : Codec rInt encI i64r where
  fwd n hn ys := by
    unfold rInt
    rw [getI_enc n hn ys]
    simp
  bwd xs n ys hb h := by
    unfold rInt at h
    obtain ⟨⟨m, sz, er⟩, hg⟩ : ∃ r, r = getI xs := ⟨_, rfl⟩
    rw [← hg] at h
    simp only at h
    split at h
    · rename_i he
      subst he
      injection h with h
      injection h with h1 h2
      subst h1
      obtain ⟨u, h1, h3, _, h4, h5⟩ := gget_inv xs 0 0 m sz hb (by decide) (by simp) hg.symm
      simp only [Nat.pow_zero, Nat.mul_one, Nat.zero_add] at h1 h3
      subst h1
      refine ⟨zag_r u h3, ?_⟩
      unfold encI
      rw [zig_zag, ← h2, h4]
      simp only [Int.natCast_zero, Int.zero_add, Int.toNat_natCast]
      exact h5
    · cases h
  cut n hn k hk := by
    have hl := (encI_len n hn).2
    unfold rInt
    rw [show getI ((encI n).take k) = (0, 0, 10) from gget_cut (zig n) 0 0 k hk (by omega)]
    rfl
/-! ### Counts, texts, flags -/
theorem cCount (most : Int) (hm : 0 ≤ most) (h64 : most ≤ 9223372036854775807) : Codec (rCount most) (fun n : Nat => encI n) (fun n => (n : Int) ≤ most) where
  fwd n hn ys := by
    unfold rCount
    rw [cInt.fwd (n : Int) (by unfold i64r; omega) ys]
    simp only
    rw [if_neg (by omega), Int.toNat_natCast]
  bwd xs n ys hb h := by
    unfold rCount at h
    cases hr : rInt xs with
    | error e => rw [hr] at h; cases h
    | ok p =>
      obtain ⟨m, zs⟩ := p
      rw [hr] at h
      simp only at h
      split at h
      · cases h
      · rename_i hc
        injection h with h
        injection h with h1 h2
        subst h1 h2
        obtain ⟨h3, h4⟩ := cInt.bwd xs m zs hb hr
        rw [Int.toNat_of_nonneg (by omega)]
        exact ⟨by omega, h4⟩
  cut n hn k hk := by
    unfold rCount
    rw [cInt.cut (n : Int) (by unfold i64r; omega) k hk]
theorem take_left_le {α : Type} {xs ys : List α} {k : Nat} (h : k ≤ xs.length) : (xs ++ ys).take k = xs.take k := by rw [List.take_append_of_le_length h]
theorem cText : Codec rText encX (fun s => s.size ≤ 128) where
  fwd s hs ys := by
    unfold rText encX
    rw [List.append_assoc, (cCount 128 (by decide) (by decide)).fwd s.size (by omega) (numsOf s ++ ys)]
    simp only
    have hl := numsOf_len s
    unfold rTake
    rw [if_neg (by rw [List.length_append]; omega)]
    simp only
    rw [← hl, List.take_left, List.drop_left, strOf_numsOf]
  bwd xs s ys hb h := by
    unfold rText at h
    cases hr : rCount 128 xs with
    | error e => rw [hr] at h; cases h
    | ok p =>
      obtain ⟨n, zs⟩ := p
      rw [hr] at h
      simp only at h
      obtain ⟨h1, h2⟩ := (cCount 128 (by decide) (by decide)).bwd xs n zs hb hr
      unfold rTake at h
      split at h
      · cases h
      · rename_i t vs ht
        split at ht
        · cases ht
        · rename_i hlen
          injection ht with ht
          injection ht with ht1 ht2
          injection h with h
          injection h with h3 h4
          subst ht1 ht2 h3 h4
          have hbz : bytes zs := bytes_right (h2 ▸ hb)
          have hsz : (strOfNums (zs.take n)).size = n := by rw [tx_size, List.length_take]; omega
          have hnm : numsOf (strOfNums (zs.take n)) = zs.take n := tx_inj (numsOf_bytes _) (fun x hx => hbz x (List.mem_of_mem_take hx)) (strOf_numsOf _)
          refine ⟨by rw [hsz]; omega, ?_⟩
          unfold encX
          rw [hsz, hnm, List.append_assoc, List.take_append_drop]
          exact h2
  cut s hs k hk := by
    unfold rText encX
    by_cases h : k < (encI s.size).length
    · rw [take_left_le (by omega), (cCount 128 (by decide) (by decide)).cut s.size (by omega) k h]
    · have hl := numsOf_len s
      unfold encX at hk
      rw [List.length_append] at hk
      rw [List.take_append, List.take_of_length_le (by omega), (cCount 128 (by decide) (by decide)).fwd s.size (by omega)]
      simp only
      unfold rTake
      rw [if_pos (by rw [List.length_take]; omega)]
theorem cFlag : Codec rFlag (fun b => [bitN b]) (fun _ => True) where
  fwd b _ ys := by cases b <;> rfl
  bwd xs b ys hb h := by
    cases xs with
    | nil => cases h
    | cons x r =>
      unfold rFlag at h
      simp only at h
      split at h
      · cases h
      · injection h with h
        injection h with h1 h2
        have hx := hb x (by simp)
        subst h1 h2
        refine ⟨trivial, ?_⟩
        have : x = 0 ∨ x = 1 := by omega
        rcases this with rfl | rfl <;> rfl
  cut b _ k hk := by
    have : k = 0 := by simpa using hk
    subst this
    rfl
/-! ### Two things -/
def rTwo {α β : Type} (R : List Int → Rd α) (S : List Int → Rd β) (xs : List Int) : Rd (α × β) := (R xs).bind fun a ys => (S ys).bind fun b zs => .ok ((a, b), zs)
theorem bind_inv {α β : Type} {r : Rd α} {f : α → List Int → Rd β} {b : β} {zs : List Int} (h : r.bind f = .ok (b, zs)) : ∃ a ys, r = .ok (a, ys) ∧ f a ys = .ok (b, zs) := by
  cases r with
  | error e => cases h
  | ok p => exact ⟨p.1, p.2, rfl, h⟩
theorem cTwo {α β : Type} {R : List Int → Rd α} {S : List Int → Rd β} {E : α → List Int} {D : β → List Int} {p : α → Prop} {q : β → Prop} (h1 : Codec R E p) (h2 : Codec S D q) : Codec (rTwo R S) (fun x => E x.1 ++ D x.2) (fun x => p x.1 ∧ q x.2) where
  fwd x hx ys := by
    unfold rTwo
    rw [List.append_assoc, Rd.bind_ok (h1.fwd x.1 hx.1 _), Rd.bind_ok (h2.fwd x.2 hx.2 _)]
  bwd xs x ys hb h := by
    obtain ⟨a, zs, ha, h⟩ := bind_inv h
    obtain ⟨b, vs, hv, h⟩ := bind_inv h
    injection h with h
    injection h with h3 h4
    subst h3 h4
    obtain ⟨p1, p2⟩ := h1.bwd _ _ _ hb ha
    obtain ⟨q1, q2⟩ := h2.bwd _ _ _ (bytes_right (p2 ▸ hb)) hv
    exact ⟨⟨p1, q1⟩, by rw [List.append_assoc, ← q2]; exact p2⟩
  cut x hx k hk := by
    unfold rTwo
    by_cases h : k < (E x.1).length
    · rw [take_left_le (by omega), Rd.bind_err (h1.cut x.1 hx.1 k h)]
    · rw [List.length_append] at hk
      rw [List.take_append, List.take_of_length_le (by omega), Rd.bind_ok (h1.fwd x.1 hx.1 _), Rd.bind_err (h2.cut x.2 hx.2 _ (by omega))]
theorem Codec.of {α : Type} {R R' : List Int → Rd α} {E E' : α → List Int} {p p' : α → Prop} (h : Codec R E p) (hR : R' = R) (hE : E' = E) (hp : ∀ a, p' a ↔ p a) : Codec R' E' p' := by
  subst hR hE
  exact ⟨fun a ha => h.fwd a ((hp a).1 ha), fun xs a ys hb hr => ⟨(hp a).2 (h.bwd xs a ys hb hr).1, (h.bwd xs a ys hb hr).2⟩, fun a ha => h.cut a ((hp a).1 ha)⟩
end Go.Proofs.Ytckdkbjobipniaa

/- Messages, written and read: plain. -/
set_option linter.unusedVariables false
set_option linter.unusedSimpArgs false
namespace Go.Proofs.Ytckdkbjobipniaa
theorem bind_assoc {α β γ : Type} (r : Rd α) (f : α → List Int → Rd β) (g : β → List Int → Rd γ) : (r.bind f).bind g = r.bind fun a ys => (f a ys).bind g := by
  cases r <;> rfl
theorem cTup : Codec rTup encT fitsT := by
  refine (cTwo cText (cTwo cText cText)).of ?_ ?_ ?_
  · funext xs
    unfold rTup rTwo
    simp only [bind_assoc]
    rfl
  · funext t
    unfold encT encX
    simp
  · intro t; exact Iff.rfl
theorem cMut : Codec rMut encM fitsM := by
  refine (cTwo cFlag cTup).of ?_ ?_ ?_
  · rfl
  · funext m; rfl
  · intro m
    exact ⟨fun h => ⟨trivial, h⟩, fun h => h.2⟩
theorem cRow : Codec rRow encR (fun r => fitsR r ∧ okR r) := by
  refine (cTwo cTup (cTwo cInt cInt)).of ?_ ?_ ?_
  · funext xs
    unfold rRow rTwo
    simp only [bind_assoc]
    rfl
  · funext r
    unfold encR
    simp
  · intro r
    exact ⟨fun h => ⟨h.1, h.2.1, h.2.2⟩, fun h => ⟨h.1, h.2.1, h.2.2⟩⟩
section
variable {α : Type} {R : List Int → Rd α} {E : α → List Int} {p : α → Prop}
theorem many_fwd (h : Codec R E p) : ∀ (l : List α), (∀ a ∈ l, p a) → ∀ ys, rMany R l.length (l.flatMap E ++ ys) = .ok (l, ys)
  | [], _, ys => rfl
  | a :: l, hl, ys => by
    show ((R _).bind fun a ys => (rMany R l.length ys).bind fun l zs => .ok (a :: l, zs)) = _
    rw [List.flatMap_cons, List.append_assoc, Rd.bind_ok (h.fwd a (hl a (.head _)) _), Rd.bind_ok (many_fwd h l (fun b hb => hl b (.tail _ hb)) ys)]
theorem many_bwd (h : Codec R E p) : ∀ (n : Nat) (xs : List Int) (l : List α) (ys : List Int), bytes xs → rMany R n xs = .ok (l, ys) → l.length = n ∧ (∀ a ∈ l, p a) ∧ xs = l.flatMap E ++ ys
  | 0, xs, l, ys, _, hr => by
    injection hr with hr
    injection hr with h1 h2
    subst h1 h2
    exact ⟨rfl, fun a ha => by (cases ha), rfl⟩
  | n + 1, xs, l, ys, hb, hr => by
    obtain ⟨a, zs, ha, hr⟩ := bind_inv hr
    obtain ⟨l', vs, hl, hr⟩ := bind_inv hr
    injection hr with hr
    injection hr with h1 h2
    subst h1 h2
    obtain ⟨p1, p2⟩ := h.bwd _ _ _ hb ha
    obtain ⟨q1, q2, q3⟩ := many_bwd h n zs l' vs (bytes_right (p2 ▸ hb)) hl
    refine ⟨by rw [List.length_cons, q1], fun b hbm => ?_, by rw [List.flatMap_cons, List.append_assoc, ← q3]; exact p2⟩
    rcases List.mem_cons.1 hbm with rfl | hbm
    · exact p1
    · exact q2 b hbm
theorem many_cut (h : Codec R E p) : ∀ (l : List α), (∀ a ∈ l, p a) → ∀ k, k < (l.flatMap E).length → rMany R l.length ((l.flatMap E).take k) = .error 10
  | [], _, k, hk => by simp at hk
  | a :: l, hl, k, hk => by
    show ((R _).bind fun a ys => (rMany R l.length ys).bind fun l zs => .ok (a :: l, zs)) = _
    rw [List.flatMap_cons] at hk ⊢
    by_cases hc : k < (E a).length
    · rw [take_left_le (by omega), Rd.bind_err (h.cut a (hl a (.head _)) k hc)]
    · rw [List.length_append] at hk
      rw [List.take_append, List.take_of_length_le (by omega), Rd.bind_ok (h.fwd a (hl a (.head _)) _), Rd.bind_err (many_cut h l (fun b hb => hl b (.tail _ hb)) _ (by omega))]
/-- A list: how many, and each. -/
theorem cList (h : Codec R E p) : Codec (rList R) (fun l => encI l.length ++ l.flatMap E) (fun l => l.length ≤ 1024 ∧ ∀ a ∈ l, p a) where
  fwd l hl ys := by
    unfold rList
    rw [List.append_assoc, Rd.bind_ok ((cCount 1024 (by decide) (by decide)).fwd l.length (by omega) _), many_fwd h l hl.2]
  bwd xs l ys hb hr := by
    obtain ⟨n, zs, hn, hr⟩ := bind_inv hr
    obtain ⟨h1, h2⟩ := (cCount 1024 (by decide) (by decide)).bwd _ _ _ hb hn
    obtain ⟨q1, q2, q3⟩ := many_bwd h n zs l ys (bytes_right (h2 ▸ hb)) hr
    refine ⟨⟨by omega, q2⟩, ?_⟩
    rw [q1, List.append_assoc, ← q3]
    exact h2
  cut l hl k hk := by
    unfold rList
    by_cases hc : k < (encI l.length).length
    · rw [take_left_le (by omega), Rd.bind_err ((cCount 1024 (by decide) (by decide)).cut l.length (by omega) k hc)]
    · rw [List.length_append] at hk
      rw [List.take_append, List.take_of_length_le (by omega), Rd.bind_ok ((cCount 1024 (by decide) (by decide)).fwd l.length (by omega) _), many_cut h l hl.2 _ (by omega)]
end
theorem c7 : Codec (rMany rInt 7) (fun l => l.flatMap encI) (fun l => l.length = 7 ∧ ∀ n ∈ l, i64r n) where
  fwd l hl ys := by rw [← hl.1]; exact many_fwd cInt l hl.2 ys
  bwd xs l ys hb hr := by
    obtain ⟨h1, h2, h3⟩ := many_bwd cInt 7 xs l ys hb hr
    exact ⟨⟨h1, h2⟩, h3⟩
  cut l hl k hk := by rw [← hl.1]; exact many_cut cInt l hl.2 k hk
abbrev Parts := List Int × Bool × List Int × List Mut × List Mut × List Rw
def partsOf (m : Msg) : Parts := (m.ints, m.flag, m.nodes, m.muts, m.pre, m.rows)
def ofParts (x : Parts) : Msg := mkMsg x.1 x.2.1 x.2.2.1 x.2.2.2.1 x.2.2.2.2.1 x.2.2.2.2.2
def rParts : List Int → Rd Parts := rTwo (rMany rInt 7) (rTwo rFlag (rTwo (rList rInt) (rTwo (rList rMut) (rTwo (rList rMut) (rList rRow)))))
def encParts (x : Parts) : List Int := x.1.flatMap encI ++ ([bitN x.2.1] ++ (enc1 x.2.2.1 ++ (enc2 x.2.2.2.1 ++ (enc2 x.2.2.2.2.1 ++ enc4 x.2.2.2.2.2))))
def okParts (x : Parts) : Prop := (x.1.length = 7 ∧ ∀ n ∈ x.1, i64r n) ∧ True ∧ (x.2.2.1.length ≤ 1024 ∧ ∀ n ∈ x.2.2.1, i64r n) ∧ (x.2.2.2.1.length ≤ 1024 ∧ ∀ n ∈ x.2.2.2.1, fitsM n) ∧ (x.2.2.2.2.1.length ≤ 1024 ∧ ∀ n ∈ x.2.2.2.2.1, fitsM n) ∧ (x.2.2.2.2.2.length ≤ 1024 ∧ ∀ n ∈ x.2.2.2.2.2, fitsR n ∧ okR n)
theorem cParts : Codec rParts encParts okParts := cTwo c7 (cTwo cFlag (cTwo (cList cInt) (cTwo (cList cMut) (cTwo (cList cMut) (cList cRow)))))
theorem ofParts_of (m : Msg) : ofParts (partsOf m) = m := by cases m; rfl
theorem partsOf_of (x : Parts) (h : x.1.length = 7) : partsOf (ofParts x) = x := by
  obtain ⟨l, r⟩ := x
  match l, h with
  | [a, b, c, d, e, g, i], _ => rfl
theorem encParts_of (m : Msg) : encMsg m = encParts (partsOf m) := by
  unfold encMsg encParts partsOf
  simp only [List.append_assoc]
theorem okParts_iff (m : Msg) : okParts (partsOf m) ↔ MsgOk m ∧ MsgFits m := by
  constructor
  · rintro ⟨⟨_, h1⟩, _, ⟨h2, h3⟩, h4, h5, h6, h7⟩
    exact ⟨⟨h1, h3, fun r hr => (h7 r hr).2⟩, ⟨h2, h4, h5, h6, fun r hr => (h7 r hr).1⟩⟩
  · rintro ⟨⟨h1, h3, h7⟩, ⟨h2, h4, h5, h6, h8⟩⟩
    exact ⟨⟨rfl, h1⟩, trivial, ⟨h2, h3⟩, h4, h5, h6, fun r hr => ⟨h8 r hr, h7 r hr⟩⟩
theorem rMsg_parts (xs : List Int) : rMsg xs = (rParts xs).bind fun x ys => .ok (ofParts x, ys) := by
  unfold rMsg rParts rRest rTwo
  simp only [bind_assoc]
  rfl
theorem cMsg : Codec rMsg encMsg (fun m => MsgOk m ∧ MsgFits m) where
  fwd m hm ys := by
    rw [rMsg_parts, encParts_of, Rd.bind_ok (cParts.fwd _ ((okParts_iff m).2 hm) ys), ofParts_of]
  bwd xs m ys hb hr := by
    rw [rMsg_parts] at hr
    obtain ⟨x, zs, hx, hr⟩ := bind_inv hr
    injection hr with hr
    injection hr with h1 h2
    subst h1 h2
    obtain ⟨p1, p2⟩ := cParts.bwd _ _ _ hb hx
    have e := partsOf_of x p1.1.1
    refine ⟨(okParts_iff _).1 (by rw [e]; exact p1), ?_⟩
    rw [encParts_of, e]
    exact p2
  cut m hm k hk := by
    rw [encParts_of] at hk ⊢
    rw [rMsg_parts, Rd.bind_err (cParts.cut _ ((okParts_iff m).2 hm) k hk)]
/-! ### Decode and Encode -/
theorem dec_enc (m : Msg) (h1 : MsgOk m) (h2 : MsgFits m) (h3 : (encMsg m).length ≤ 16384) : rDec (encMsg m) = .ok m := by
  unfold rDec
  rw [if_neg (by omega)]
  have := cMsg.fwd m ⟨h1, h2⟩ []
  rw [List.append_nil] at this
  rw [this]
theorem dec_inv (xs : List Int) (m : Msg) (hb : bytes xs) (h : rDec xs = .ok m) : MsgOk m ∧ MsgFits m ∧ encMsg m = xs ∧ xs.length ≤ 16384 := by
  unfold rDec at h
  split at h
  · cases h
  · rename_i hl
    split at h
    · cases h
    · rename_i m' hr
      injection h with h
      subst h
      obtain ⟨p1, p2⟩ := cMsg.bwd xs _ [] hb hr
      rw [List.append_nil] at p2
      exact ⟨p1.1, p1.2, p2.symm, by omega⟩
    · cases h
end Go.Proofs.Ytckdkbjobipniaa

/- The kinds of the arguments of the messages' statements. -/
set_option linter.unusedVariables false
namespace Go.Proofs.Ytckdkbjobipniaa
open Go.RowKit Go.Proofs.YtckdkbjobipniaaW.PrintWords
end Go.Proofs.Ytckdkbjobipniaa

/- The kinds of messages as arguments. -/
set_option linter.unusedVariables false
set_option linter.unusedSimpArgs false
namespace Go.Proofs.Ytckdkbjobipniaa
open Go.RowKit Go.Proofs.YtckdkbjobipniaaW.PrintWords
def cS (n : Int) : Prop := (Lit.int .i64 n).wf = true
def cT (s : ByteArray) : Prop := s.size ≤ 140737488351232
def cTS (t : Tup) : Prop := cT t.1 ∧ cT t.2.1 ∧ cT t.2.2
def mT (s : ByteArray) : Nat := s.size + 1
def mTup (t : Tup) : Nat := mT t.1 + (mT t.2.1 + mT t.2.2) + 1
def mMut (x : Mut) : Nat := 1 + mTup x.2 + 1
def mRw (r : Rw) : Nat := mTup r.1 + (1 + 1) + 1
theorem copens_int : Opens Try.prog 3 (Kd.int .i64) cS (fun _ => 1) := opens_int Try.underlying3 (by kernel_rfl)
theorem copens_i64 : Opens Try.prog 2 (Kd.int .i64) cS (fun _ => 1) := opens_int Try.underlying2 (by kernel_rfl)
theorem copens_bool : Opens Try.prog 4 Kd.bool (fun _ => True) (fun _ => 1) := opens_bool Try.underlying4 (by kernel_rfl)
theorem copens_text : Opens Try.prog 9 Kd.string cT mT := opens_string Try.underlying9 (by kernel_rfl)
theorem copens_tup : Opens Try.prog 133 KTup cTS mTup :=
  opens_struct (n := 3) (mu := fun t : Tup => mT t.1 + (mT t.2.1 + mT t.2.2)) Try.underlying133 (by kernel_rfl)
    (opensF_cons (S := cT) (mu := mT) (n := 1) (m := 2) (S' := fun y : ByteArray × ByteArray => cT y.1 ∧ cT y.2) (mu' := fun y => mT y.1 + mT y.2) rfl (by kernel_rfl) copens_text
      (opensF_cons (S := cT) (S' := cT) (mu := mT) (mu' := mT) (n := 1) (m := 1) rfl (by kernel_rfl) copens_text (opensF_one (n := 1) rfl (by kernel_rfl) copens_text)))
theorem copens_mut : Opens Try.prog 135 KMut (fun x => True ∧ cTS x.2) mMut :=
  opens_struct (n := 4) (mu := fun x : Mut => 1 + mTup x.2) Try.underlying135 (by kernel_rfl)
    (opensF_cons (S := fun _ => True) (S' := cTS) (mu := fun _ => 1) (mu' := mTup) (n := 1) (m := 3) rfl (by kernel_rfl) copens_bool (opensF_one (n := 3) rfl (by kernel_rfl) copens_tup))
theorem copens_cond : Opens Try.prog 143 KMut (fun x => True ∧ cTS x.2) mMut :=
  opens_struct (n := 4) (mu := fun x : Mut => 1 + mTup x.2) Try.underlying143 (by kernel_rfl)
    (opensF_cons (S := fun _ => True) (S' := cTS) (mu := fun _ => 1) (mu' := mTup) (n := 1) (m := 3) rfl (by kernel_rfl) copens_bool (opensF_one (n := 3) rfl (by kernel_rfl) copens_tup))
theorem copens_row : Opens Try.prog 145 KRow (fun r => cTS r.1 ∧ cS r.2.1 ∧ cS r.2.2) mRw :=
  opens_struct (n := 5) (mu := fun r : Rw => mTup r.1 + (1 + 1)) Try.underlying145 (by kernel_rfl)
    (opensF_cons (S := cTS) (mu := mTup) (n := 3) (m := 2) (S' := fun y : Int × Int => cS y.1 ∧ cS y.2) (mu' := fun y => 1 + 1) rfl (by kernel_rfl) copens_tup
      (opensF_cons (S := cS) (S' := cS) (mu := fun _ => 1) (mu' := fun _ => 1) (n := 1) (m := 1) rfl (by kernel_rfl) copens_i64 (opensF_one (n := 1) rfl (by kernel_rfl) copens_i64)))
def sL1 (l : List Int) : Prop := l.length * 8 ≤ 140737488351232 ∧ ∀ x ∈ l, cS x
def sL2 (l : List Mut) : Prop := l.length * 56 ≤ 140737488351232 ∧ ∀ x ∈ l, True ∧ cTS x.2
def sL4 (l : List Rw) : Prop := l.length * 64 ≤ 140737488351232 ∧ ∀ r ∈ l, cTS r.1 ∧ cS r.2.1 ∧ cS r.2.2
def mL1 (l : List Int) : Nat := (l.map fun _ => 1).sum + 1
def mL2 (l : List Mut) : Nat := (l.map mMut).sum + 1
def mL4 (l : List Rw) : Nat := (l.map mRw).sum + 1
theorem copens_l1 : Opens Try.prog 22 (Kd.slice 3 (Kd.int .i64)) sL1 mL1 := opens_slice Try.underlying22 (by kernel_rfl) (by kernel_rfl) copens_int
theorem copens_l2 : Opens Try.prog 23 (Kd.slice 135 KMut) sL2 mL2 := opens_slice Try.underlying23 (by kernel_rfl) (by kernel_rfl) copens_mut
theorem copens_l3 : Opens Try.prog 24 (Kd.slice 143 KMut) sL2 mL2 := opens_slice Try.underlying24 (by kernel_rfl) (by kernel_rfl) copens_cond
theorem copens_l4 : Opens Try.prog 25 (Kd.slice 145 KRow) sL4 mL4 := opens_slice Try.underlying25 (by kernel_rfl) (by kernel_rfl) copens_row
abbrev KInt := Kd.int .i64
abbrev KLists := Kd.pair (Kd.slice 3 KInt) (Kd.pair (Kd.slice 135 KMut) (Kd.pair (Kd.slice 143 KMut) (Kd.slice 145 KRow)))
abbrev KMsg := Kd.pair KInt (Kd.pair KInt (Kd.pair KInt (Kd.pair KInt (Kd.pair KInt (Kd.pair KInt (Kd.pair KInt (Kd.pair Kd.bool KLists)))))))
abbrev TM11 := List Rw
def sM11 (y : TM11) : Prop := sL4 y
def mM11 (y : TM11) : Nat := mL4 y
abbrev TM10 := (List Mut) × TM11
def sM10 (y : TM10) : Prop := sL2 y.1 ∧ sM11 y.2
def mM10 (y : TM10) : Nat := mL2 y.1 + mM11 y.2
abbrev TM9 := (List Mut) × TM10
def sM9 (y : TM9) : Prop := sL2 y.1 ∧ sM10 y.2
def mM9 (y : TM9) : Nat := mL2 y.1 + mM10 y.2
abbrev TM8 := (List Int) × TM9
def sM8 (y : TM8) : Prop := sL1 y.1 ∧ sM9 y.2
def mM8 (y : TM8) : Nat := mL1 y.1 + mM9 y.2
abbrev TM7 := Bool × TM8
def sM7 (y : TM7) : Prop := True ∧ sM8 y.2
def mM7 (y : TM7) : Nat := 1 + mM8 y.2
abbrev TM6 := Int × TM7
def sM6 (y : TM6) : Prop := cS y.1 ∧ sM7 y.2
def mM6 (y : TM6) : Nat := 1 + mM7 y.2
abbrev TM5 := Int × TM6
def sM5 (y : TM5) : Prop := cS y.1 ∧ sM6 y.2
def mM5 (y : TM5) : Nat := 1 + mM6 y.2
abbrev TM4 := Int × TM5
def sM4 (y : TM4) : Prop := cS y.1 ∧ sM5 y.2
def mM4 (y : TM4) : Nat := 1 + mM5 y.2
abbrev TM3 := Int × TM4
def sM3 (y : TM3) : Prop := cS y.1 ∧ sM4 y.2
def mM3 (y : TM3) : Nat := 1 + mM4 y.2
abbrev TM2 := Int × TM3
def sM2 (y : TM2) : Prop := cS y.1 ∧ sM3 y.2
def mM2 (y : TM2) : Nat := 1 + mM3 y.2
abbrev TM1 := Int × TM2
def sM1 (y : TM1) : Prop := cS y.1 ∧ sM2 y.2
def mM1 (y : TM1) : Nat := 1 + mM2 y.2
abbrev TM0 := Int × TM1
def sM0 (y : TM0) : Prop := cS y.1 ∧ sM1 y.2
def mM0 (y : TM0) : Nat := 1 + mM1 y.2
theorem copens_msg : Opens Try.prog 27 KMsg sM0 (fun y => mM0 y + 1) :=
  opens_struct (n := 12) (mu := mM0) Try.underlying27 (by kernel_rfl)
    (opensF_cons (S := cS) (S' := sM1) (mu := (fun _ => 1)) (mu' := mM1) (n := 1) (m := 11) rfl (by kernel_rfl) copens_int
      (opensF_cons (S := cS) (S' := sM2) (mu := (fun _ => 1)) (mu' := mM2) (n := 1) (m := 10) rfl (by kernel_rfl) copens_int
      (opensF_cons (S := cS) (S' := sM3) (mu := (fun _ => 1)) (mu' := mM3) (n := 1) (m := 9) rfl (by kernel_rfl) copens_int
      (opensF_cons (S := cS) (S' := sM4) (mu := (fun _ => 1)) (mu' := mM4) (n := 1) (m := 8) rfl (by kernel_rfl) copens_i64
      (opensF_cons (S := cS) (S' := sM5) (mu := (fun _ => 1)) (mu' := mM5) (n := 1) (m := 7) rfl (by kernel_rfl) copens_i64
      (opensF_cons (S := cS) (S' := sM6) (mu := (fun _ => 1)) (mu' := mM6) (n := 1) (m := 6) rfl (by kernel_rfl) copens_i64
      (opensF_cons (S := cS) (S' := sM7) (mu := (fun _ => 1)) (mu' := mM7) (n := 1) (m := 5) rfl (by kernel_rfl) copens_int
      (opensF_cons (S := (fun _ => True)) (S' := sM8) (mu := (fun _ => 1)) (mu' := mM8) (n := 1) (m := 4) rfl (by kernel_rfl) copens_bool
      (opensF_cons (S := sL1) (S' := sM9) (mu := mL1) (mu' := mM9) (n := 1) (m := 3) rfl (by kernel_rfl) copens_l1
      (opensF_cons (S := sL2) (S' := sM10) (mu := mL2) (mu' := mM10) (n := 1) (m := 2) rfl (by kernel_rfl) copens_l2
      (opensF_cons (S := sL2) (S' := sM11) (mu := mL2) (mu' := mM11) (n := 1) (m := 1) rfl (by kernel_rfl) copens_l3
      (opensF_one (S := sM11) (mu := mM11) (n := 1) rfl (by kernel_rfl) copens_l4))))))))))))
/-- A message out of its fields. -/
def msgOf (y : TM0) : Msg := ⟨y.1, y.2.1, y.2.2.1, y.2.2.2.1, y.2.2.2.2.1, y.2.2.2.2.2.1, y.2.2.2.2.2.2.1, y.2.2.2.2.2.2.2.1, y.2.2.2.2.2.2.2.2.1, y.2.2.2.2.2.2.2.2.2.1, y.2.2.2.2.2.2.2.2.2.2.1, y.2.2.2.2.2.2.2.2.2.2.2⟩
theorem i64r_cS {x : Int} (h : cS x) : i64r x := by
  have h2 : (Lit.int .i64 x).wf = true := h
  simp only [Lit.wf, Bool.and_eq_true, decide_eq_true_eq] at h2
  exact h2
/-- How large a message's lists are. -/
structure MsgLe (m : Msg) (s1 s2 s3 s4 : Hdr) : Prop where
  e1 : s1.2.1 = m.nodes.length ∧ s1.2.1 ≤ s1.2.2 ∧ m.nodes.length * 8 ≤ 140737488351232
  e2 : s2.2.1 = m.muts.length ∧ s2.2.1 ≤ s2.2.2 ∧ m.muts.length * 56 ≤ 140737488351232
  e3 : s3.2.1 = m.pre.length ∧ s3.2.1 ≤ s3.2.2 ∧ m.pre.length * 56 ≤ 140737488351232
  e4 : s4.2.1 = m.rows.length ∧ s4.2.1 ≤ s4.2.2 ∧ m.rows.length * 64 ≤ 140737488351232
theorem msg_open {w : World} {y : TM0} {cs : Array Value} (hK : KMsg.K w y cs.toList) (hS : sM0 y) : ∃ s1 s2 s3 s4 : Hdr, .agg cs = msgV (msgOf y) s1 s2 s3 s4 ∧ MsgC w (msgOf y) s1 s2 s3 s4 ∧ MsgOk (msgOf y) ∧ MsgLe (msgOf y) s1 s2 s3 s4 := by
  obtain ⟨a0, a1, a2, a3, a4, a5, a6, f, l1, l2, l3, l4⟩ := y
  obtain ⟨_, _, hc, rfl, _, _, rfl, rfl, _, _, rfl, rfl, _, _, rfl, rfl, _, _, rfl, rfl, _, _, rfl, rfl, _, _, rfl, rfl, _, _, rfl, rfl, _, _, rfl, ⟨A1, c1, rfl, g1, C1⟩, _, _, rfl, ⟨A2, c2, rfl, g2, C2⟩, _, _, rfl, ⟨A3, c3, rfl, g3, C3⟩, ⟨A4, c4, rfl, g4, C4⟩⟩ := hK
  obtain ⟨h0, h1, h2, h3, h4, h5, h6, _, ⟨b1, r1⟩, ⟨b2, _⟩, ⟨b3, _⟩, b4, r4⟩ := hS
  refine ⟨(A1, l1.length, c1), (A2, l2.length, c2), (A3, l3.length, c3), (A4, l4.length, c4), ?_, ⟨C1, C2, C3, C4⟩, ⟨?_, fun n hn => i64r_cS (r1 n hn), fun r hr => ⟨i64r_cS (r4 r hr).2.1, i64r_cS (r4 r hr).2.2⟩⟩, ⟨⟨rfl, g1, b1⟩, ⟨rfl, g2, b2⟩, ⟨rfl, g3, b3⟩, ⟨rfl, g4, b4⟩⟩⟩
  · obtain ⟨cs⟩ := cs
    simp only at hc
    subst hc
    rfl
  · intro n hn
    simp only [Msg.ints, msgOf, List.mem_cons, List.not_mem_nil, or_false] at hn
    rcases hn with rfl | rfl | rfl | rfl | rfl | rfl | rfl
    all_goals exact i64r_cS (by assumption)
end Go.Proofs.Ytckdkbjobipniaa

/- The law's arguments and what is written: small facts. -/
set_option linter.unusedVariables false
namespace Go.Proofs.Ytckdkbjobipniaa
open Go.RowKit
theorem encMsg_bytes (m : Msg) : bytes (encMsg m) := by
  have hI : ∀ n, bytes (encI n) := fun n => venc_bytes _
  have ha : ∀ {xs ys : List Int}, bytes xs → bytes ys → bytes (xs ++ ys) := fun h1 h2 x hx => (List.mem_append.1 hx).elim (h1 x) (h2 x)
  have hf : ∀ {α : Type} (f : α → List Int) (l : List α), (∀ a, bytes (f a)) → bytes (l.flatMap f) := fun f l h x hx => by
    obtain ⟨a, _, h2⟩ := List.mem_flatMap.1 hx
    exact h a x h2
  have hT : ∀ t, bytes (encT t) := fun t => ha (ha (ha (hI _) (numsOf_bytes _)) (ha (hI _) (numsOf_bytes _))) (ha (hI _) (numsOf_bytes _))
  have hB : ∀ b, bytes [bitN b] := fun b => by cases b <;> (intro x hx; simp [bitN] at hx; omega)
  have hM : ∀ m, bytes (encM m) := fun m => ha (hB m.1) (hT m.2)
  have hR : ∀ r, bytes (encR r) := fun r => ha (ha (hT _) (hI _)) (hI _)
  exact ha (ha (ha (ha (ha (hf _ _ hI) (hB _)) (ha (hI _) (hf _ _ hI))) (ha (hI _) (hf _ _ hM))) (ha (hI _) (hf _ _ hM))) (ha (hI _) (hf _ _ hR))
end Go.Proofs.Ytckdkbjobipniaa

/- What Decode gives, as a message's lists. -/
set_option linter.unusedVariables false
namespace Go.Proofs.Ytckdkbjobipniaa
open Go.RowKit Go.Proofs.YtckdkbjobipniaaW.PrintWords
theorem msgC_of {w0 w : World} {F : HP} {m : Msg} {t1 t2 t3 t4 : Hdr} (hh : HdrsOf m t1 t2 t3 t4) (h : Hw w0 w (listsP m.nodes m.muts m.pre m.rows t1 t2 t3 t4 * F)) : MsgC w m t1 t2 t3 t4 := by
  have l1 := hh.l1
  have l2 := hh.l2
  have l3 := hh.l3
  have l4 := hh.l4
  unfold listsP at h
  refine ⟨?_, ?_, ?_, ?_⟩
  · exact crow_C (d := Kd.int .i64) intC (fun _ _ => rfl) (by decide) (h.as (by ac_rfl : _ = crow 1 3 t1.1 t1.2.1 t1.2.2 (m.nodes.flatMap intC) * (crow 4 135 t2.1 t2.2.1 t2.2.2 (m.muts.flatMap mutC) * (crow 4 143 t3.1 t3.2.1 t3.2.2 (m.pre.flatMap mutC) * (crow 5 145 t4.1 t4.2.1 t4.2.2 (m.rows.flatMap rowC) * F))))) l1.1.symm (by omega)
  · exact crow_C (d := KMut) mutC KMut_mk (by decide) (h.as (by ac_rfl : _ = crow 4 135 t2.1 t2.2.1 t2.2.2 (m.muts.flatMap mutC) * (crow 1 3 t1.1 t1.2.1 t1.2.2 (m.nodes.flatMap intC) * (crow 4 143 t3.1 t3.2.1 t3.2.2 (m.pre.flatMap mutC) * (crow 5 145 t4.1 t4.2.1 t4.2.2 (m.rows.flatMap rowC) * F))))) l2.1.symm (by omega)
  · exact crow_C (d := KMut) mutC KMut_mk (by decide) (h.as (by ac_rfl : _ = crow 4 143 t3.1 t3.2.1 t3.2.2 (m.pre.flatMap mutC) * (crow 1 3 t1.1 t1.2.1 t1.2.2 (m.nodes.flatMap intC) * (crow 4 135 t2.1 t2.2.1 t2.2.2 (m.muts.flatMap mutC) * (crow 5 145 t4.1 t4.2.1 t4.2.2 (m.rows.flatMap rowC) * F))))) l3.1.symm (by omega)
  · exact crow_C (d := KRow) rowC KRow_mk (by decide) (h.as (by ac_rfl : _ = crow 5 145 t4.1 t4.2.1 t4.2.2 (m.rows.flatMap rowC) * (crow 1 3 t1.1 t1.2.1 t1.2.2 (m.nodes.flatMap intC) * (crow 4 135 t2.1 t2.2.1 t2.2.2 (m.muts.flatMap mutC) * (crow 4 143 t3.1 t3.2.1 t3.2.2 (m.pre.flatMap mutC) * F))))) l4.1.symm (by omega)
end Go.Proofs.Ytckdkbjobipniaa

/- Decode in one form: what it answers is a message and a number, in either case. -/
set_option linter.unusedVariables false
namespace Go.Proofs.Ytckdkbjobipniaa
open Go.RowKit Go.Proofs.YtckdkbjobipniaaW.PrintWords
/-- What Decode answers, as a pair. -/
def decRes (xs : List Int) : Msg × Int := match rDec xs with
  | .ok m => (m, 0)
  | .error c => (zeroMsg, c)
end Go.Proofs.Ytckdkbjobipniaa
