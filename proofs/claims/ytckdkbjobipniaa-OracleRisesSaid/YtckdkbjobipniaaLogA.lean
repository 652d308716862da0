/- Lists of messages in memory. Printed by wip/gen/logs.py. -/
import Derived.Test.YtckdkbjobipniaaCC
set_option linter.unusedVariables false
namespace Go.Proofs.Ytckdkbjobipniaa
open Go.RowKit Go.Proofs.YtckdkbjobipniaaW.PrintWords
/-- A message, and its lists' heads. -/
structure MH where
  m : Msg
  s1 : Hdr
  s2 : Hdr
  s3 : Hdr
  s4 : Hdr
abbrev mhC (x : MH) : List Value := [.int .i64 x.m.kind, .int .i64 x.m.src, .int .i64 x.m.dst, .int .i64 x.m.id, .int .i64 x.m.rev, .int .i64 x.m.epoch, .int .i64 x.m.slot, .bool x.m.flag, .slice x.s1.1 x.s1.2.1 x.s1.2.2, .slice x.s2.1 x.s2.2.1 x.s2.2.2, .slice x.s3.1 x.s3.2.1 x.s3.2.2, .slice x.s4.1 x.s4.2.1 x.s4.2.2]
abbrev MH.C (w : World) (x : MH) : Prop := MsgC w x.m x.s1 x.s2 x.s3 x.s4
abbrev MH.P (x : MH) : HP := listsP x.m.nodes x.m.muts x.m.pre x.m.rows x.s1 x.s2 x.s3 x.s4
abbrev MH.H (x : MH) : Prop := HdrsOf x.m x.s1 x.s2 x.s3 x.s4
abbrev MH.V (x : MH) : Value := msgV x.m x.s1 x.s2 x.s3 x.s4
/-- A list of messages that is read. -/
structure MsgsC (w : World) (A : Option Addr) (n : Nat) (l : List MH) : Prop where
  len : l.length = n
  max : n ≤ 9223372036854775807
  cells : 0 < n → ∃ ad, A = some ad ∧ ∀ j x, l[j]? = some x → ∀ i u, (mhC x)[i]? = some u → w.cell? (ad.add (j * 12 + i)) = some u
  msg : ∀ x ∈ l, x.C w
theorem MsgsC.below {w w' : World} {A : Option Addr} {n : Nat} {l : List MH} (h : MsgsC w A n l) (hb : Below w.heap.size w w') : MsgsC w' A n l := by
  refine ⟨h.len, h.max, fun hn => ?_, fun x hx => (h.msg x hx).below hb⟩
  obtain ⟨ad, e, hc⟩ := h.cells hn
  exact ⟨ad, e, fun j x hx i u hu => pw_cell_below hb (hc j x hx i u hu)⟩
theorem MsgsC.take {w : World} {A : Option Addr} {n : Nat} {l : List MH} (h : MsgsC w A n l) (k : Nat) (hk : k ≤ n) : MsgsC w A k (l.take k) := by
  have hl := h.len
  have hm := h.max
  refine ⟨by rw [List.length_take]; omega, by omega, fun hn => ?_, fun x hx => h.msg x (List.mem_of_mem_take hx)⟩
  obtain ⟨ad, e, hc⟩ := h.cells (by omega)
  refine ⟨ad, e, fun j x hx i u hu => hc j x ?_ i u hu⟩
  rw [List.getElem?_take] at hx
  split at hx
  · exact hx
  · cases hx
theorem MsgsC.nil {w : World} {A : Option Addr} : MsgsC w A 0 [] := ⟨rfl, by decide, fun h => by omega, fun x hx => by simp at hx⟩
/-- The cells of a message of a list. -/
structure At12 (w : World) (ad : Addr) (j : Nat) (x : MH) : Prop where
  c0 : w.cell? (ad.add (j * 12)) = some (.int .i64 x.m.kind)
  c1 : w.cell? ⟨(ad.add (j * 12)).block, (ad.add (j * 12)).off + 1, none⟩ = some (.int .i64 x.m.src)
  c2 : w.cell? ⟨(ad.add (j * 12)).block, (ad.add (j * 12)).off + 2, none⟩ = some (.int .i64 x.m.dst)
  c3 : w.cell? ⟨(ad.add (j * 12)).block, (ad.add (j * 12)).off + 3, none⟩ = some (.int .i64 x.m.id)
  c4 : w.cell? ⟨(ad.add (j * 12)).block, (ad.add (j * 12)).off + 4, none⟩ = some (.int .i64 x.m.rev)
  c5 : w.cell? ⟨(ad.add (j * 12)).block, (ad.add (j * 12)).off + 5, none⟩ = some (.int .i64 x.m.epoch)
  c6 : w.cell? ⟨(ad.add (j * 12)).block, (ad.add (j * 12)).off + 6, none⟩ = some (.int .i64 x.m.slot)
  c7 : w.cell? ⟨(ad.add (j * 12)).block, (ad.add (j * 12)).off + 7, none⟩ = some (.bool x.m.flag)
  c8 : w.cell? ⟨(ad.add (j * 12)).block, (ad.add (j * 12)).off + 8, none⟩ = some (.slice x.s1.1 x.s1.2.1 x.s1.2.2)
  c9 : w.cell? ⟨(ad.add (j * 12)).block, (ad.add (j * 12)).off + 9, none⟩ = some (.slice x.s2.1 x.s2.2.1 x.s2.2.2)
  c10 : w.cell? ⟨(ad.add (j * 12)).block, (ad.add (j * 12)).off + 10, none⟩ = some (.slice x.s3.1 x.s3.2.1 x.s3.2.2)
  c11 : w.cell? ⟨(ad.add (j * 12)).block, (ad.add (j * 12)).off + 11, none⟩ = some (.slice x.s4.1 x.s4.2.1 x.s4.2.2)
theorem At12.below {w w' : World} {ad : Addr} {j : Nat} {x : MH} (h : At12 w ad j x) (hb : Below w.heap.size w w') : At12 w' ad j x :=
  ⟨pw_cell_below hb h.c0, pw_cell_below hb h.c1, pw_cell_below hb h.c2, pw_cell_below hb h.c3, pw_cell_below hb h.c4, pw_cell_below hb h.c5, pw_cell_below hb h.c6, pw_cell_below hb h.c7, pw_cell_below hb h.c8, pw_cell_below hb h.c9, pw_cell_below hb h.c10, pw_cell_below hb h.c11⟩
theorem at12_mk {w : World} {ad : Addr} {j : Nat} {x : MH} (h : ∀ i u, (mhC x)[i]? = some u → w.cell? (ad.add (j * 12 + i)) = some u) : At12 w ad j x := by
  refine ⟨h 0 _ rfl, ?_, ?_, ?_, ?_, ?_, ?_, ?_, ?_, ?_, ?_, ?_⟩
  · have := h 1 _ rfl
    rwa [add_field _ _ _ (by decide)] at this
  · have := h 2 _ rfl
    rwa [add_field _ _ _ (by decide)] at this
  · have := h 3 _ rfl
    rwa [add_field _ _ _ (by decide)] at this
  · have := h 4 _ rfl
    rwa [add_field _ _ _ (by decide)] at this
  · have := h 5 _ rfl
    rwa [add_field _ _ _ (by decide)] at this
  · have := h 6 _ rfl
    rwa [add_field _ _ _ (by decide)] at this
  · have := h 7 _ rfl
    rwa [add_field _ _ _ (by decide)] at this
  · have := h 8 _ rfl
    rwa [add_field _ _ _ (by decide)] at this
  · have := h 9 _ rfl
    rwa [add_field _ _ _ (by decide)] at this
  · have := h 10 _ rfl
    rwa [add_field _ _ _ (by decide)] at this
  · have := h 11 _ rfl
    rwa [add_field _ _ _ (by decide)] at this
theorem msgs_at {w : World} {A : Option Addr} {n : Nat} {l : List MH} (h : MsgsC w A n l) (j : Nat) (hj : j < n) : ∃ ad x, A = some ad ∧ Aside0 (l[j]? = some x) ∧ Aside0 (x.C w) ∧ Aside0 (At12 w ad j x) := by
  obtain ⟨ad, e, hc⟩ := h.cells (by omega)
  have hx : l[j]? = some (l[j]'(by rw [h.len]; exact hj)) := List.getElem?_eq_getElem _
  exact ⟨ad, _, e, ⟨hx⟩, ⟨h.msg _ (List.mem_of_getElem? hx)⟩, ⟨at12_mk (hc j _ hx)⟩⟩
/-- What is owned of some messages. -/
def msgsP : List MH → HP
  | [] => HP.emp
  | x :: l => x.P * msgsP l
theorem msgsP_snoc : ∀ (l : List MH) (x : MH), msgsP (l ++ [x]) = x.P * msgsP l
  | [], x => rfl
  | y :: l, x => by
    show y.P * msgsP (l ++ [x]) = x.P * (y.P * msgsP l)
    rw [msgsP_snoc l x]; ac_rfl
theorem msgsP_C {w0 w : World} : ∀ (l : List MH) {F : HP}, Hw w0 w (msgsP l * F) → (∀ x ∈ l, x.H) → ∀ x ∈ l, x.C w
  | [], _, _, _, x, hx => by simp at hx
  | y :: l, F, h, hh, x, hx => by
    rcases List.mem_cons.1 hx with rfl | hx
    · exact msgC_of (hh x (by simp)) (h.as (Q := x.P * (msgsP l * F)) (by show x.P * msgsP l * F = _; ac_rfl))
    · exact msgsP_C l (h.as (Q := msgsP l * (y.P * F)) (by show y.P * msgsP l * F = _; ac_rfl)) (fun z hz => hh z (by simp [hz])) x hx
/-- A list that a call has made. -/
theorem msgs_of {w0 w : World} {F : HP} {A : Option Addr} {n c : Nat} {l : List MH} (h : Hw w0 w (crow 12 27 A n c (l.flatMap mhC) * F)) (hn : l.length = n) (hm : n ≤ 9223372036854775807) (hC : ∀ x ∈ l, x.C w) : MsgsC w A n l := by
  refine ⟨hn, hm, fun hp => ?_, hC⟩
  obtain ⟨ad, e, hc⟩ := crow_reads h hp
  refine ⟨ad, e, fun j x hx i u hu => hc _ _ ?_⟩
  have hi : i < 12 := (List.getElem?_eq_some_iff.1 hu).1
  rw [flat_at mhC 12 (fun _ => rfl) l j i x hx hi]
  exact hu
def AlikePost (w : World) (la lb : List Msg) (e : Ending) (w' : World) : Prop := ∃ b, e = .returned (.bool b) ∧ (b = true ↔ la = lb) ∧ Below w.heap.size w w'
theorem AlikePost.no {w w' : World} {la lb : List Msg} {e : Ending} (he : e = .returned (.bool false)) (h : la ≠ lb) (hb : Below w.heap.size w w') : AlikePost w la lb e w' := ⟨false, he, ⟨(fun h => nomatch h), fun h2 => absurd h2 h⟩, hb⟩
theorem AlikePost.yes {w w' : World} {la lb : List Msg} {e : Ending} (he : e = .returned (.bool true)) (h : la = lb) (hb : Below w.heap.size w w') : AlikePost w la lb e w' := ⟨true, he, ⟨fun _ => h, fun _ => rfl⟩, hb⟩
theorem msgs_args {w : World} {A : Option Addr} : ∀ {n : Nat} {ys : List TM0}, KMsg.C w A n ys → (∀ y ∈ ys, sM0 y) → ∃ l : List MH, MsgsC w A n l ∧ l.map (·.m) = ys.map msgOf ∧ (∀ x ∈ l, MsgOk x.m) := by
  intro n ys hC hS
  have hlen := hC.1
  have key : ∀ (zs : List TM0) (k : Nat), (∀ j z, zs[j]? = some z → ys[k + j]? = some z) → ∃ l : List MH, l.map (·.m) = zs.map msgOf ∧ (∀ j x, l[j]? = some x → MsgOk x.m ∧ x.C w ∧ ∀ ad, A = some ad → ∀ i u, (mhC x)[i]? = some u → w.cell? (ad.add ((k + j) * 12 + i)) = some u) := by
    intro zs
    induction zs with
    | nil => exact fun k _ => ⟨[], rfl, fun j x hx => by simp at hx⟩
    | cons z zs ih =>
      intro k hz
      obtain ⟨l, h1, h2⟩ := ih (k + 1) (fun j z' hj => by have := hz (j + 1) z' (by simpa using hj); rwa [show k + (j + 1) = k + 1 + j by omega] at this)
      have hk : ys[k]? = some z := by simpa using hz 0 z rfl
      have hkl := (List.getElem?_eq_some_iff.1 hk).1
      obtain ⟨ad, e, hc⟩ := hC.2.2 (by omega)
      obtain ⟨cs, hs, hK, hcell⟩ := hc k z hk
      obtain ⟨s1, s2, s3, s4, hv, hM, hO, hL⟩ := msg_open (cs := cs.toArray) (by simpa using hK) (hS z (List.mem_of_getElem? hk))
      have hcs : cs = mhC ⟨msgOf z, s1, s2, s3, s4⟩ := by
        injection hv with hv
        have := congrArg Array.toList hv
        simpa using this
      refine ⟨⟨msgOf z, s1, s2, s3, s4⟩ :: l, by rw [List.map_cons, h1]; rfl, fun j x hx => ?_⟩
      cases j with
      | zero =>
        obtain rfl : (⟨msgOf z, s1, s2, s3, s4⟩ : MH) = x := by simpa using hx
        refine ⟨hO, hM, fun ad' e' i u hu => ?_⟩
        obtain rfl : ad = ad' := by rw [e] at e'; injection e'
        exact hcell i u (by rw [hcs]; exact hu)
      | succ j =>
        obtain ⟨p1, p2, p3⟩ := h2 j x (by simpa using hx)
        refine ⟨p1, p2, fun ad' e' i u hu => ?_⟩
        have := p3 ad' e' i u hu
        rwa [show k + 1 + j = k + (j + 1) by omega] at this
  obtain ⟨l, h1, h2⟩ := key ys 0 (fun j z hz => by simpa using hz)
  have hl : l.length = n := by have := congrArg List.length h1; rw [List.length_map, List.length_map] at this; omega
  have hg : ∀ x ∈ l, ∃ j, l[j]? = some x := fun x hx => by
    obtain ⟨j, hj, rfl⟩ := List.getElem_of_mem hx
    exact ⟨j, List.getElem?_eq_getElem hj⟩
  refine ⟨l, ⟨hl, hC.2.1, fun hp => ?_, fun x hx => ?_⟩, h1, fun x hx => ?_⟩
  · obtain ⟨ad, e, _⟩ := hC.2.2 hp
    refine ⟨ad, e, fun j x hx i u hu => ?_⟩
    have := (h2 j x hx).2.2 ad e i u hu
    rwa [Nat.zero_add] at this
  · obtain ⟨j, hj⟩ := hg x hx
    exact (h2 j x hj).2.1
  · obtain ⟨j, hj⟩ := hg x hx
    exact (h2 j x hj).1
end Go.Proofs.Ytckdkbjobipniaa
