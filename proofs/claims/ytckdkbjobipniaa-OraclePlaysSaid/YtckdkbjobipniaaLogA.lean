/- Lists of messages in memory. Printed by wip/gen/logs.py. -/
import Derived.Test.YtckdkbjobipniaaCC
set_option linter.unusedVariables false
namespace Go.Proofs.Ytckdkbjobipniaa
open Go.RowKit Go.Proofs.YtckdkbjobipniaaW.PrintWords
/-- A message, and its lists' heads. -/
structure MH where
  m : Msg
  s1 : Hdr
  s2 : Hdr
  s3 : Hdr
  s4 : Hdr
abbrev mhC (x : MH) : List Value := [.int .i64 x.m.kind, .int .i64 x.m.src, .int .i64 x.m.dst, .int .i64 x.m.id, .int .i64 x.m.rev, .int .i64 x.m.epoch, .int .i64 x.m.slot, .bool x.m.flag, .slice x.s1.1 x.s1.2.1 x.s1.2.2, .slice x.s2.1 x.s2.2.1 x.s2.2.2, .slice x.s3.1 x.s3.2.1 x.s3.2.2, .slice x.s4.1 x.s4.2.1 x.s4.2.2]
abbrev MH.C (w : World) (x : MH) : Prop := MsgC w x.m x.s1 x.s2 x.s3 x.s4
abbrev MH.P (x : MH) : HP := listsP x.m.nodes x.m.muts x.m.pre x.m.rows x.s1 x.s2 x.s3 x.s4
abbrev MH.H (x : MH) : Prop := HdrsOf x.m x.s1 x.s2 x.s3 x.s4
abbrev MH.V (x : MH) : Value := msgV x.m x.s1 x.s2 x.s3 x.s4
/-- A list of messages that is read. -/
structure MsgsC (w : World) (A : Option Addr) (n : Nat) (l : List MH) : Prop where
  len : l.length = n
  max : n ≤ 9223372036854775807
  cells : 0 < n → ∃ ad, A = some ad ∧ ∀ j x, l[j]? = some x → ∀ i u, (mhC x)[i]? = some u → w.cell? (ad.add (j * 12 + i)) = some u
  msg : ∀ x ∈ l, x.C w
theorem MsgsC.below {w w' : World} {A : Option Addr} {n : Nat} {l : List MH} (h : MsgsC w A n l) (hb : Below w.heap.size w w') : MsgsC w' A n l := by
  refine ⟨h.len, h.max, fun hn => ?_, fun x hx => (h.msg x hx).below hb⟩
  obtain ⟨ad, e, hc⟩ := h.cells hn
  exact ⟨ad, e, fun j x hx i u hu => pw_cell_below hb (hc j x hx i u hu)⟩
theorem MsgsC.take {w : World} {A : Option Addr} {n : Nat} {l : List MH} (h : MsgsC w A n l) (k : Nat) (hk : k ≤ n) : MsgsC w A k (l.take k) := by
  have hl := h.len
  have hm := h.max
  refine ⟨by rw [List.length_take]; omega, by omega, fun hn => ?_, fun x hx => h.msg x (List.mem_of_mem_take hx)⟩
  obtain ⟨ad, e, hc⟩ := h.cells (by omega)
  refine ⟨ad, e, fun j x hx i u hu => hc j x ?_ i u hu⟩
  rw [List.getElem?_take] at hx
  split at hx
  · exact hx
  · cases hx
theorem MsgsC.nil {w : World} {A : Option Addr} : MsgsC w A 0 [] := ⟨rfl, by decide, fun h => by omega, fun x hx => by simp at hx⟩
/-- The cells of a message of a list. -/
structure At12 (w : World) (ad : Addr) (j : Nat) (x : MH) : Prop where
  c0 : w.cell? (ad.add (j * 12)) = some (.int .i64 x.m.kind)
  c1 : w.cell? ⟨(ad.add (j * 12)).block, (ad.add (j * 12)).off + 1, none⟩ = some (.int .i64 x.m.src)
  c2 : w.cell? ⟨(ad.add (j * 12)).block, (ad.add (j * 12)).off + 2, none⟩ = some (.int .i64 x.m.dst)
  c3 : w.cell? ⟨(ad.add (j * 12)).block, (ad.add (j * 12)).off + 3, none⟩ = some (.int .i64 x.m.id)
  c4 : w.cell? ⟨(ad.add (j * 12)).block, (ad.add (j * 12)).off + 4, none⟩ = some (.int .i64 x.m.rev)
  c5 : w.cell? ⟨(ad.add (j * 12)).block, (ad.add (j * 12)).off + 5, none⟩ = some (.int .i64 x.m.epoch)
  c6 : w.cell? ⟨(ad.add (j * 12)).block, (ad.add (j * 12)).off + 6, none⟩ = some (.int .i64 x.m.slot)
  c7 : w.cell? ⟨(ad.add (j * 12)).block, (ad.add (j * 12)).off + 7, none⟩ = some (.bool x.m.flag)
  c8 : w.cell? ⟨(ad.add (j * 12)).block, (ad.add (j * 12)).off + 8, none⟩ = some (.slice x.s1.1 x.s1.2.1 x.s1.2.2)
  c9 : w.cell? ⟨(ad.add (j * 12)).block, (ad.add (j * 12)).off + 9, none⟩ = some (.slice x.s2.1 x.s2.2.1 x.s2.2.2)
  c10 : w.cell? ⟨(ad.add (j * 12)).block, (ad.add (j * 12)).off + 10, none⟩ = some (.slice x.s3.1 x.s3.2.1 x.s3.2.2)
  c11 : w.cell? ⟨(ad.add (j * 12)).block, (ad.add (j * 12)).off + 11, none⟩ = some (.slice x.s4.1 x.s4.2.1 x.s4.2.2)
theorem At12.below {w w' : World} {ad : Addr} {j : Nat} {x : MH} (h : At12 w ad j x) (hb : Below w.heap.size w w') : At12 w' ad j x :=
  ⟨pw_cell_below hb h.c0, pw_cell_below hb h.c1, pw_cell_below hb h.c2, pw_cell_below hb h.c3, pw_cell_below hb h.c4, pw_cell_below hb h.c5, pw_cell_below hb h.c6, pw_cell_below hb h.c7, pw_cell_below hb h.c8, pw_cell_below hb h.c9, pw_cell_below hb h.c10, pw_cell_below hb h.c11⟩
theorem at12_mk {w : World} {ad : Addr} {j : Nat} {x : MH} (h : ∀ i u, (mhC x)[i]? = some u → w.cell? (ad.add (j * 12 + i)) = some u) : At12 w ad j x := by
  refine ⟨h 0 _ rfl, ?_, ?_, ?_, ?_, ?_, ?_, ?_, ?_, ?_, ?_, ?_⟩
  · have := h 1 _ rfl
    rwa [add_field _ _ _ (by decide)] at this
  · have := h 2 _ rfl
    rwa [add_field _ _ _ (by decide)] at this
  · have := h 3 _ rfl
    rwa [add_field _ _ _ (by decide)] at this
  · have := h 4 _ rfl
    rwa [add_field _ _ _ (by decide)] at this
  · have := h 5 _ rfl
    rwa [add_field _ _ _ (by decide)] at this
  · have := h 6 _ rfl
    rwa [add_field _ _ _ (by decide)] at this
  · have := h 7 _ rfl
    rwa [add_field _ _ _ (by decide)] at this
  · have := h 8 _ rfl
    rwa [add_field _ _ _ (by decide)] at this
  · have := h 9 _ rfl
    rwa [add_field _ _ _ (by decide)] at this
  · have := h 10 _ rfl
    rwa [add_field _ _ _ (by decide)] at this
  · have := h 11 _ rfl
    rwa [add_field _ _ _ (by decide)] at this
theorem msgs_at {w : World} {A : Option Addr} {n : Nat} {l : List MH} (h : MsgsC w A n l) (j : Nat) (hj : j < n) : ∃ ad x, A = some ad ∧ Aside0 (l[j]? = some x) ∧ Aside0 (x.C w) ∧ Aside0 (At12 w ad j x) := by
  obtain ⟨ad, e, hc⟩ := h.cells (by omega)
  have hx : l[j]? = some (l[j]'(by rw [h.len]; exact hj)) := List.getElem?_eq_getElem _
  exact ⟨ad, _, e, ⟨hx⟩, ⟨h.msg _ (List.mem_of_getElem? hx)⟩, ⟨at12_mk (hc j _ hx)⟩⟩
/-- What is owned of some messages. -/
def msgsP : List MH → HP
  | [] => HP.emp
  | x :: l => x.P * msgsP l
theorem msgsP_snoc : ∀ (l : List MH) (x : MH), msgsP (l ++ [x]) = x.P * msgsP l
  | [], x => rfl
  | y :: l, x => by
    show y.P * msgsP (l ++ [x]) = x.P * (y.P * msgsP l)
    rw [msgsP_snoc l x]; ac_rfl
theorem msgsP_C {w0 w : World} : ∀ (l : List MH) {F : HP}, Hw w0 w (msgsP l * F) → (∀ x ∈ l, x.H) → ∀ x ∈ l, x.C w
  | [], _, _, _, x, hx => by simp at hx
  | y :: l, F, h, hh, x, hx => by
    rcases List.mem_cons.1 hx with rfl | hx
    · exact msgC_of (hh x (by simp)) (h.as (Q := x.P * (msgsP l * F)) (by show x.P * msgsP l * F = _; ac_rfl))
    · exact msgsP_C l (h.as (Q := msgsP l * (y.P * F)) (by show y.P * msgsP l * F = _; ac_rfl)) (fun z hz => hh z (by simp [hz])) x hx
/-- A list that a call has made. -/
theorem msgs_of {w0 w : World} {F : HP} {A : Option Addr} {n c : Nat} {l : List MH} (h : Hw w0 w (crow 12 27 A n c (l.flatMap mhC) * F)) (hn : l.length = n) (hm : n ≤ 9223372036854775807) (hC : ∀ x ∈ l, x.C w) : MsgsC w A n l := by
  refine ⟨hn, hm, fun hp => ?_, hC⟩
  obtain ⟨ad, e, hc⟩ := crow_reads h hp
  refine ⟨ad, e, fun j x hx i u hu => hc _ _ ?_⟩
  have hi : i < 12 := (List.getElem?_eq_some_iff.1 hu).1
  rw [flat_at mhC 12 (fun _ => rfl) l j i x hx hi]
  exact hu
def AlikePost (w : World) (la lb : List Msg) (e : Ending) (w' : World) : Prop := ∃ b, e = .returned (.bool b) ∧ (b = true ↔ la = lb) ∧ Below w.heap.size w w'
theorem AlikePost.no {w w' : World} {la lb : List Msg} {e : Ending} (he : e = .returned (.bool false)) (h : la ≠ lb) (hb : Below w.heap.size w w') : AlikePost w la lb e w' := ⟨false, he, ⟨(fun h => nomatch h), fun h2 => absurd h2 h⟩, hb⟩
theorem AlikePost.yes {w w' : World} {la lb : List Msg} {e : Ending} (he : e = .returned (.bool true)) (h : la = lb) (hb : Below w.heap.size w w') : AlikePost w la lb e w' := ⟨true, he, ⟨fun _ => h, fun _ => rfl⟩, hb⟩
end Go.Proofs.Ytckdkbjobipniaa
