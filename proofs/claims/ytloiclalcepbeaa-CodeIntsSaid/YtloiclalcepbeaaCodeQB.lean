/- Messages, written and read: plain. -/
import Derived.Test.YtloiclalcepbeaaCodeQ
import Derived.Test.YtloiclalcepbeaaCodeZ
set_option linter.unusedVariables false
set_option linter.unusedSimpArgs false
namespace Go.Proofs.Ytloiclalcepbeaa
theorem bind_assoc {α β γ : Type} (r : Rd α) (f : α → List Int → Rd β) (g : β → List Int → Rd γ) : (r.bind f).bind g = r.bind fun a ys => (f a ys).bind g := by
  cases r <;> rfl
theorem cTup : Codec rTup encT fitsT := by
  refine (cTwo cText (cTwo cText cText)).of ?_ ?_ ?_
  · funext xs
    unfold rTup rTwo
    simp only [bind_assoc]
    rfl
  · funext t
    unfold encT encX
    simp
  · intro t; exact Iff.rfl
theorem cMut : Codec rMut encM fitsM := by
  refine (cTwo cFlag cTup).of ?_ ?_ ?_
  · rfl
  · funext m; rfl
  · intro m
    exact ⟨fun h => ⟨trivial, h⟩, fun h => h.2⟩
theorem cRow : Codec rRow encR (fun r => fitsR r ∧ okR r) := by
  refine (cTwo cTup (cTwo cInt cInt)).of ?_ ?_ ?_
  · funext xs
    unfold rRow rTwo
    simp only [bind_assoc]
    rfl
  · funext r
    unfold encR
    simp
  · intro r
    exact ⟨fun h => ⟨h.1, h.2.1, h.2.2⟩, fun h => ⟨h.1, h.2.1, h.2.2⟩⟩
section
variable {α : Type} {R : List Int → Rd α} {E : α → List Int} {p : α → Prop}
theorem many_fwd (h : Codec R E p) : ∀ (l : List α), (∀ a ∈ l, p a) → ∀ ys, rMany R l.length (l.flatMap E ++ ys) = .ok (l, ys)
  | [], _, ys => rfl
  | a :: l, hl, ys => by
    show ((R _).bind fun a ys => (rMany R l.length ys).bind fun l zs => .ok (a :: l, zs)) = _
    rw [List.flatMap_cons, List.append_assoc, Rd.bind_ok (h.fwd a (hl a (.head _)) _), Rd.bind_ok (many_fwd h l (fun b hb => hl b (.tail _ hb)) ys)]
theorem many_bwd (h : Codec R E p) : ∀ (n : Nat) (xs : List Int) (l : List α) (ys : List Int), bytes xs → rMany R n xs = .ok (l, ys) → l.length = n ∧ (∀ a ∈ l, p a) ∧ xs = l.flatMap E ++ ys
  | 0, xs, l, ys, _, hr => by
    injection hr with hr
    injection hr with h1 h2
    subst h1 h2
    exact ⟨rfl, fun a ha => by (cases ha), rfl⟩
  | n + 1, xs, l, ys, hb, hr => by
    obtain ⟨a, zs, ha, hr⟩ := bind_inv hr
    obtain ⟨l', vs, hl, hr⟩ := bind_inv hr
    injection hr with hr
    injection hr with h1 h2
    subst h1 h2
    obtain ⟨p1, p2⟩ := h.bwd _ _ _ hb ha
    obtain ⟨q1, q2, q3⟩ := many_bwd h n zs l' vs (bytes_right (p2 ▸ hb)) hl
    refine ⟨by rw [List.length_cons, q1], fun b hbm => ?_, by rw [List.flatMap_cons, List.append_assoc, ← q3]; exact p2⟩
    rcases List.mem_cons.1 hbm with rfl | hbm
    · exact p1
    · exact q2 b hbm
theorem many_cut (h : Codec R E p) : ∀ (l : List α), (∀ a ∈ l, p a) → ∀ k, k < (l.flatMap E).length → rMany R l.length ((l.flatMap E).take k) = .error 10
  | [], _, k, hk => by simp at hk
  | a :: l, hl, k, hk => by
    show ((R _).bind fun a ys => (rMany R l.length ys).bind fun l zs => .ok (a :: l, zs)) = _
    rw [List.flatMap_cons] at hk ⊢
    by_cases hc : k < (E a).length
    · rw [take_left_le (by omega), Rd.bind_err (h.cut a (hl a (.head _)) k hc)]
    · rw [List.length_append] at hk
      rw [List.take_append, List.take_of_length_le (by omega), Rd.bind_ok (h.fwd a (hl a (.head _)) _), Rd.bind_err (many_cut h l (fun b hb => hl b (.tail _ hb)) _ (by omega))]
/-- A list: how many, and each. -/
theorem cList (h : Codec R E p) : Codec (rList R) (fun l => encI l.length ++ l.flatMap E) (fun l => l.length ≤ 1024 ∧ ∀ a ∈ l, p a) where
  fwd l hl ys := by
    unfold rList
    rw [List.append_assoc, Rd.bind_ok ((cCount 1024 (by decide) (by decide)).fwd l.length (by omega) _), many_fwd h l hl.2]
  bwd xs l ys hb hr := by
    obtain ⟨n, zs, hn, hr⟩ := bind_inv hr
    obtain ⟨h1, h2⟩ := (cCount 1024 (by decide) (by decide)).bwd _ _ _ hb hn
    obtain ⟨q1, q2, q3⟩ := many_bwd h n zs l ys (bytes_right (h2 ▸ hb)) hr
    refine ⟨⟨by omega, q2⟩, ?_⟩
    rw [q1, List.append_assoc, ← q3]
    exact h2
  cut l hl k hk := by
    unfold rList
    by_cases hc : k < (encI l.length).length
    · rw [take_left_le (by omega), Rd.bind_err ((cCount 1024 (by decide) (by decide)).cut l.length (by omega) k hc)]
    · rw [List.length_append] at hk
      rw [List.take_append, List.take_of_length_le (by omega), Rd.bind_ok ((cCount 1024 (by decide) (by decide)).fwd l.length (by omega) _), many_cut h l hl.2 _ (by omega)]
end
theorem c7 : Codec (rMany rInt 7) (fun l => l.flatMap encI) (fun l => l.length = 7 ∧ ∀ n ∈ l, i64r n) where
  fwd l hl ys := by rw [← hl.1]; exact many_fwd cInt l hl.2 ys
  bwd xs l ys hb hr := by
    obtain ⟨h1, h2, h3⟩ := many_bwd cInt 7 xs l ys hb hr
    exact ⟨⟨h1, h2⟩, h3⟩
  cut l hl k hk := by rw [← hl.1]; exact many_cut cInt l hl.2 k hk
abbrev Parts := List Int × Bool × List Int × List Mut × List Mut × List Rw
def partsOf (m : Msg) : Parts := (m.ints, m.flag, m.nodes, m.muts, m.pre, m.rows)
def ofParts (x : Parts) : Msg := mkMsg x.1 x.2.1 x.2.2.1 x.2.2.2.1 x.2.2.2.2.1 x.2.2.2.2.2
def rParts : List Int → Rd Parts := rTwo (rMany rInt 7) (rTwo rFlag (rTwo (rList rInt) (rTwo (rList rMut) (rTwo (rList rMut) (rList rRow)))))
def encParts (x : Parts) : List Int := x.1.flatMap encI ++ ([bitN x.2.1] ++ (enc1 x.2.2.1 ++ (enc2 x.2.2.2.1 ++ (enc2 x.2.2.2.2.1 ++ enc4 x.2.2.2.2.2))))
def okParts (x : Parts) : Prop := (x.1.length = 7 ∧ ∀ n ∈ x.1, i64r n) ∧ True ∧ (x.2.2.1.length ≤ 1024 ∧ ∀ n ∈ x.2.2.1, i64r n) ∧ (x.2.2.2.1.length ≤ 1024 ∧ ∀ n ∈ x.2.2.2.1, fitsM n) ∧ (x.2.2.2.2.1.length ≤ 1024 ∧ ∀ n ∈ x.2.2.2.2.1, fitsM n) ∧ (x.2.2.2.2.2.length ≤ 1024 ∧ ∀ n ∈ x.2.2.2.2.2, fitsR n ∧ okR n)
theorem cParts : Codec rParts encParts okParts := cTwo c7 (cTwo cFlag (cTwo (cList cInt) (cTwo (cList cMut) (cTwo (cList cMut) (cList cRow)))))
theorem ofParts_of (m : Msg) : ofParts (partsOf m) = m := by cases m; rfl
theorem partsOf_of (x : Parts) (h : x.1.length = 7) : partsOf (ofParts x) = x := by
  obtain ⟨l, r⟩ := x
  match l, h with
  | [a, b, c, d, e, g, i], _ => rfl
theorem encParts_of (m : Msg) : encMsg m = encParts (partsOf m) := by
  unfold encMsg encParts partsOf
  simp only [List.append_assoc]
theorem okParts_iff (m : Msg) : okParts (partsOf m) ↔ MsgOk m ∧ MsgFits m := by
  constructor
  · rintro ⟨⟨_, h1⟩, _, ⟨h2, h3⟩, h4, h5, h6, h7⟩
    exact ⟨⟨h1, h3, fun r hr => (h7 r hr).2⟩, ⟨h2, h4, h5, h6, fun r hr => (h7 r hr).1⟩⟩
  · rintro ⟨⟨h1, h3, h7⟩, ⟨h2, h4, h5, h6, h8⟩⟩
    exact ⟨⟨rfl, h1⟩, trivial, ⟨h2, h3⟩, h4, h5, h6, fun r hr => ⟨h8 r hr, h7 r hr⟩⟩
theorem rMsg_parts (xs : List Int) : rMsg xs = (rParts xs).bind fun x ys => .ok (ofParts x, ys) := by
  unfold rMsg rParts rRest rTwo
  simp only [bind_assoc]
  rfl
theorem cMsg : Codec rMsg encMsg (fun m => MsgOk m ∧ MsgFits m) where
  fwd m hm ys := by
    rw [rMsg_parts, encParts_of, Rd.bind_ok (cParts.fwd _ ((okParts_iff m).2 hm) ys), ofParts_of]
  bwd xs m ys hb hr := by
    rw [rMsg_parts] at hr
    obtain ⟨x, zs, hx, hr⟩ := bind_inv hr
    injection hr with hr
    injection hr with h1 h2
    subst h1 h2
    obtain ⟨p1, p2⟩ := cParts.bwd _ _ _ hb hx
    have e := partsOf_of x p1.1.1
    refine ⟨(okParts_iff _).1 (by rw [e]; exact p1), ?_⟩
    rw [encParts_of, e]
    exact p2
  cut m hm k hk := by
    rw [encParts_of] at hk ⊢
    rw [rMsg_parts, Rd.bind_err (cParts.cut _ ((okParts_iff m).2 hm) k hk)]
/-! ### Decode and Encode -/
theorem dec_enc (m : Msg) (h1 : MsgOk m) (h2 : MsgFits m) (h3 : (encMsg m).length ≤ 16384) : rDec (encMsg m) = .ok m := by
  unfold rDec
  rw [if_neg (by omega)]
  have := cMsg.fwd m ⟨h1, h2⟩ []
  rw [List.append_nil] at this
  rw [this]
theorem dec_inv (xs : List Int) (m : Msg) (hb : bytes xs) (h : rDec xs = .ok m) : MsgOk m ∧ MsgFits m ∧ encMsg m = xs ∧ xs.length ≤ 16384 := by
  unfold rDec at h
  split at h
  · cases h
  · rename_i hl
    split at h
    · cases h
    · rename_i m' hr
      injection h with h
      subst h
      obtain ⟨p1, p2⟩ := cMsg.bwd xs _ [] hb hr
      rw [List.append_nil] at p2
      exact ⟨p1.1, p1.2, p2.symm, by omega⟩
    · cases h
theorem dec_cut (m : Msg) (h1 : MsgOk m) (h2 : MsgFits m) (h3 : (encMsg m).length ≤ 16384) (k : Nat) (hk : k < (encMsg m).length) : rDec ((encMsg m).take k) = .error 10 := by
  unfold rDec
  rw [if_neg (by rw [List.length_take]; omega), cMsg.cut m ⟨h1, h2⟩ k hk]
theorem dec_more (m : Msg) (h1 : MsgOk m) (h2 : MsgFits m) (y : Int) (ys : List Int) (h3 : (encMsg m ++ y :: ys).length ≤ 16384) : rDec (encMsg m ++ y :: ys) = .error 21 := by
  unfold rDec
  rw [if_neg (by omega), cMsg.fwd m ⟨h1, h2⟩ (y :: ys)]
theorem dec_long (xs : List Int) (h : 16384 < xs.length) : rDec xs = .error 2 := if_pos h
end Go.Proofs.Ytloiclalcepbeaa
