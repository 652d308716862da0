/- What is written is read, what is read was written, cut short nothing is read: plain. -/
import Derived.Test.YtloiclalcepbeaaCodeP
import Derived.Test.YtloiclalcepbeaaCodeW
set_option linter.unusedVariables false
set_option linter.unusedSimpArgs false
namespace Go.Proofs.Ytloiclalcepbeaa
/-- Things written and read. -/
structure Codec {α : Type} (R : List Int → Rd α) (E : α → List Int) (ok : α → Prop) : Prop where
  fwd : ∀ a, ok a → ∀ ys, R (E a ++ ys) = .ok (a, ys)
  bwd : ∀ xs a ys, bytes xs → R xs = .ok (a, ys) → ok a ∧ xs = E a ++ ys
  cut : ∀ a, ok a → ∀ k, k < (E a).length → R ((E a).take k) = .error 10
theorem bytes_right {xs ys : List Int} (h : bytes (xs ++ ys)) : bytes ys := fun x hx => h x (List.mem_append_right _ hx)
/-! ### Numbers -/
theorem gget_cut : ∀ (u i acc k : Nat), k < (venc u).length → i + k ≤ 9 → gget i acc ((venc u).take k) = (0, 0, 10) := by
  intro u
  induction u using Nat.strongRecOn with
  | _ u ih =>
    intro i acc k hk hi
    cases k with
    | zero => rfl
    | succ k =>
      by_cases h : u < 128
      · rw [venc_lt h] at hk
        simp at hk
      · rw [venc_ge (by omega)] at hk ⊢
        rw [List.take_succ_cons]
        unfold gget
        rw [if_neg (by omega), if_neg (by omega)]
        exact ih (u / 128) (by omega) (i + 1) _ k (by simpa using hk) (by omega)
set_option maxRecDepth 100000 in
theorem gget_inv : ∀ (xs : List Int) (i acc : Nat) (n sz : Int), bytes xs → i ≤ 9 → acc < 128 ^ i → gget i acc xs = (n, sz, 0) → ∃ u : Nat, n = zag (acc + u * 128 ^ i) ∧ acc + u * 128 ^ i < 18446744073709551616 ∧ (u = 0 → i = 0) ∧ sz = i + (venc u).length ∧ xs = venc u ++ xs.drop (venc u).length
  | [], i, acc, n, sz, _, _, _, h => by
    simp [gget] at h
  | x :: xs, i, acc, n, sz, hb, hi, ha, h => by
    have p9 : (128 : Nat) ^ 9 = 9223372036854775808 := by decide
    obtain ⟨x0, x1⟩ := hb x (by simp)
    unfold gget at h
    by_cases c1 : i = 9 ∧ 1 < x
    · rw [if_pos c1] at h
      simp at h
    · rw [if_neg c1] at h
      by_cases c2 : x < 128
      · rw [if_pos c2] at h
        by_cases c3 : x = 0 ∧ 0 < i
        · rw [if_pos c3] at h
          simp at h
        · rw [if_neg c3] at h
          simp only [Prod.mk.injEq] at h
          obtain ⟨h1, h2, _⟩ := h
          have hv := venc_lt (u := x.toNat) (by omega)
          refine ⟨x.toNat, h1.symm, ?_, fun h0 => by omega, by rw [hv]; simp; omega, by rw [hv]; simp; omega⟩
          by_cases h9 : i = 9
          · subst h9
            have : x.toNat ≤ 1 := by omega
            have := Nat.mul_le_mul_right (128 ^ 9) this
            omega
          · have h8 : (128 : Nat) ^ i ≤ 128 ^ 8 := Nat.pow_le_pow_right (by decide) (by omega)
            have e8 : (128 : Nat) ^ 8 = 72057594037927936 := by decide
            have : x.toNat ≤ 127 := by omega
            have := Nat.mul_le_mul_right (128 ^ i) this
            omega
      · rw [if_neg c2] at h
        have hi8 : i ≤ 8 := by omega
        have e1 : (x.toNat - 128) * 128 ^ i ≤ 127 * 128 ^ i := Nat.mul_le_mul_right _ (by omega)
        obtain ⟨u, h1, h2, h3, h4, h5⟩ := gget_inv xs (i + 1) _ n sz (fun y hy => hb y (.tail _ hy)) (by omega) (by rw [Nat.pow_succ]; omega) h
        have hu : 0 < u := by
          rcases Nat.eq_zero_or_pos u with h0 | h0
          · have := h3 h0; omega
          · exact h0
        have hd : (u * 128 + (x.toNat - 128)) / 128 = u := by omega
        have hv := venc_ge (u := u * 128 + (x.toNat - 128)) (by omega)
        rw [hd, show (u * 128 + (x.toNat - 128)) % 128 + 128 = x.toNat by omega] at hv
        have e2 : acc + (x.toNat - 128) * 128 ^ i + u * 128 ^ (i + 1) = acc + (u * 128 + (x.toNat - 128)) * 128 ^ i := by
          rw [Nat.pow_succ, Nat.add_mul, ← Nat.mul_assoc, Nat.mul_right_comm u]
          omega
        rw [e2] at h1 h2
        refine ⟨u * 128 + (x.toNat - 128), h1, h2, fun h0 => by omega, by rw [hv, List.length_cons, h4]; push_cast; omega, ?_⟩
        rw [hv, List.length_cons, List.drop_succ_cons, List.cons_append, ← h5]
        congr 1
        omega
theorem cInt : Codec rInt encI i64r where
  fwd n hn ys := by
    unfold rInt
    rw [getI_enc n hn ys]
    simp
  bwd xs n ys hb h := by
    unfold rInt at h
    obtain ⟨⟨m, sz, er⟩, hg⟩ : ∃ r, r = getI xs := ⟨_, rfl⟩
    rw [← hg] at h
    simp only at h
    split at h
    · rename_i he
      subst he
      injection h with h
      injection h with h1 h2
      subst h1
      obtain ⟨u, h1, h3, _, h4, h5⟩ := gget_inv xs 0 0 m sz hb (by decide) (by simp) hg.symm
      simp only [Nat.pow_zero, Nat.mul_one, Nat.zero_add] at h1 h3
      subst h1
      refine ⟨zag_r u h3, ?_⟩
      unfold encI
      rw [zig_zag, ← h2, h4]
      simp only [Int.natCast_zero, Int.zero_add, Int.toNat_natCast]
      exact h5
    · cases h
  cut n hn k hk := by
    have hl := (encI_len n hn).2
    unfold rInt
    rw [show getI ((encI n).take k) = (0, 0, 10) from gget_cut (zig n) 0 0 k hk (by omega)]
    rfl
/-! ### Counts, texts, flags -/
theorem cCount (most : Int) (hm : 0 ≤ most) (h64 : most ≤ 9223372036854775807) : Codec (rCount most) (fun n : Nat => encI n) (fun n => (n : Int) ≤ most) where
  fwd n hn ys := by
    unfold rCount
    rw [cInt.fwd (n : Int) (by unfold i64r; omega) ys]
    simp only
    rw [if_neg (by omega), Int.toNat_natCast]
  bwd xs n ys hb h := by
    unfold rCount at h
    cases hr : rInt xs with
    | error e => rw [hr] at h; cases h
    | ok p =>
      obtain ⟨m, zs⟩ := p
      rw [hr] at h
      simp only at h
      split at h
      · cases h
      · rename_i hc
        injection h with h
        injection h with h1 h2
        subst h1 h2
        obtain ⟨h3, h4⟩ := cInt.bwd xs m zs hb hr
        rw [Int.toNat_of_nonneg (by omega)]
        exact ⟨by omega, h4⟩
  cut n hn k hk := by
    unfold rCount
    rw [cInt.cut (n : Int) (by unfold i64r; omega) k hk]
theorem take_left_le {α : Type} {xs ys : List α} {k : Nat} (h : k ≤ xs.length) : (xs ++ ys).take k = xs.take k := by rw [List.take_append_of_le_length h]
theorem cText : Codec rText encX (fun s => s.size ≤ 128) where
  fwd s hs ys := by
    unfold rText encX
    rw [List.append_assoc, (cCount 128 (by decide) (by decide)).fwd s.size (by omega) (numsOf s ++ ys)]
    simp only
    have hl := numsOf_len s
    unfold rTake
    rw [if_neg (by rw [List.length_append]; omega)]
    simp only
    rw [← hl, List.take_left, List.drop_left, strOf_numsOf]
  bwd xs s ys hb h := by
    unfold rText at h
    cases hr : rCount 128 xs with
    | error e => rw [hr] at h; cases h
    | ok p =>
      obtain ⟨n, zs⟩ := p
      rw [hr] at h
      simp only at h
      obtain ⟨h1, h2⟩ := (cCount 128 (by decide) (by decide)).bwd xs n zs hb hr
      unfold rTake at h
      split at h
      · cases h
      · rename_i t vs ht
        split at ht
        · cases ht
        · rename_i hlen
          injection ht with ht
          injection ht with ht1 ht2
          injection h with h
          injection h with h3 h4
          subst ht1 ht2 h3 h4
          have hbz : bytes zs := bytes_right (h2 ▸ hb)
          have hsz : (strOfNums (zs.take n)).size = n := by rw [tx_size, List.length_take]; omega
          have hnm : numsOf (strOfNums (zs.take n)) = zs.take n := tx_inj (numsOf_bytes _) (fun x hx => hbz x (List.mem_of_mem_take hx)) (strOf_numsOf _)
          refine ⟨by rw [hsz]; omega, ?_⟩
          unfold encX
          rw [hsz, hnm, List.append_assoc, List.take_append_drop]
          exact h2
  cut s hs k hk := by
    unfold rText encX
    by_cases h : k < (encI s.size).length
    · rw [take_left_le (by omega), (cCount 128 (by decide) (by decide)).cut s.size (by omega) k h]
    · have hl := numsOf_len s
      unfold encX at hk
      rw [List.length_append] at hk
      rw [List.take_append, List.take_of_length_le (by omega), (cCount 128 (by decide) (by decide)).fwd s.size (by omega)]
      simp only
      unfold rTake
      rw [if_pos (by rw [List.length_take]; omega)]
theorem cFlag : Codec rFlag (fun b => [bitN b]) (fun _ => True) where
  fwd b _ ys := by cases b <;> rfl
  bwd xs b ys hb h := by
    cases xs with
    | nil => cases h
    | cons x r =>
      unfold rFlag at h
      simp only at h
      split at h
      · cases h
      · injection h with h
        injection h with h1 h2
        have hx := hb x (by simp)
        subst h1 h2
        refine ⟨trivial, ?_⟩
        have : x = 0 ∨ x = 1 := by omega
        rcases this with rfl | rfl <;> rfl
  cut b _ k hk := by
    have : k = 0 := by simpa using hk
    subst this
    rfl
/-! ### Two things -/
def rTwo {α β : Type} (R : List Int → Rd α) (S : List Int → Rd β) (xs : List Int) : Rd (α × β) := (R xs).bind fun a ys => (S ys).bind fun b zs => .ok ((a, b), zs)
theorem bind_inv {α β : Type} {r : Rd α} {f : α → List Int → Rd β} {b : β} {zs : List Int} (h : r.bind f = .ok (b, zs)) : ∃ a ys, r = .ok (a, ys) ∧ f a ys = .ok (b, zs) := by
  cases r with
  | error e => cases h
  | ok p => exact ⟨p.1, p.2, rfl, h⟩
theorem cTwo {α β : Type} {R : List Int → Rd α} {S : List Int → Rd β} {E : α → List Int} {D : β → List Int} {p : α → Prop} {q : β → Prop} (h1 : Codec R E p) (h2 : Codec S D q) : Codec (rTwo R S) (fun x => E x.1 ++ D x.2) (fun x => p x.1 ∧ q x.2) where
  fwd x hx ys := by
    unfold rTwo
    rw [List.append_assoc, Rd.bind_ok (h1.fwd x.1 hx.1 _), Rd.bind_ok (h2.fwd x.2 hx.2 _)]
  bwd xs x ys hb h := by
    obtain ⟨a, zs, ha, h⟩ := bind_inv h
    obtain ⟨b, vs, hv, h⟩ := bind_inv h
    injection h with h
    injection h with h3 h4
    subst h3 h4
    obtain ⟨p1, p2⟩ := h1.bwd _ _ _ hb ha
    obtain ⟨q1, q2⟩ := h2.bwd _ _ _ (bytes_right (p2 ▸ hb)) hv
    exact ⟨⟨p1, q1⟩, by rw [List.append_assoc, ← q2]; exact p2⟩
  cut x hx k hk := by
    unfold rTwo
    by_cases h : k < (E x.1).length
    · rw [take_left_le (by omega), Rd.bind_err (h1.cut x.1 hx.1 k h)]
    · rw [List.length_append] at hk
      rw [List.take_append, List.take_of_length_le (by omega), Rd.bind_ok (h1.fwd x.1 hx.1 _), Rd.bind_err (h2.cut x.2 hx.2 _ (by omega))]
theorem Codec.of {α : Type} {R R' : List Int → Rd α} {E E' : α → List Int} {p p' : α → Prop} (h : Codec R E p) (hR : R' = R) (hE : E' = E) (hp : ∀ a, p' a ↔ p a) : Codec R' E' p' := by
  subst hR hE
  exact ⟨fun a ha => h.fwd a ((hp a).1 ha), fun xs a ys hb hr => ⟨(hp a).2 (h.bwd xs a ys hb hr).1, (h.bwd xs a ys hb hr).2⟩, fun a ha => h.cut a ((hp a).1 ha)⟩
end Go.Proofs.Ytloiclalcepbeaa
