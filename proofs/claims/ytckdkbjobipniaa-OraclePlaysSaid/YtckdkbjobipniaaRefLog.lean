/- The document's log: Add and Open. Printed by wip/gen/reflog.py. -/
import Derived.Test.YtckdkbjobipniaaCodeRE
import Derived.Test.YtckdkbjobipniaaCodeRD
import Derived.Test.YtckdkbjobipniaaRefFrameM
import Derived.Test.YtckdkbjobipniaaRefDisk
import Derived.Test.YtckdkbjobipniaaLogW
set_option linter.unusedVariables false
set_option linter.unusedSimpArgs false
namespace Go.Proofs.Ytckdkbjobipniaa
open Go.RowKit Go.Proofs.YtckdkbjobipniaaW.PrintWords Go.Proofs.YtckdkbjobipniaaW.PrintLast
theorem logRead_step (xs : List Int) (hb : isB xs) (ho : openErr xs = 0) {m : Msg} (hd : rDec (openTxt xs) = .ok m) :
    ∃ v : Nat, openEnd xs = v ∧ v ≤ xs.length ∧ 0 < v ∧ logRead xs = (m :: (logRead (xs.drop v)).1, v + (logRead (xs.drop v)).2) := by
  obtain ⟨v, hv, hv1, hv2, hend, htl, hseal⟩ := seal_open xs hb ho
  have h0 : xs.length ≠ 0 := by omega
  have hstep := cutOf_step xs h0 ho
  rw [hv, Int.toNat_natCast] at hstep
  refine ⟨8 + v, by rw [hend]; omega, hv2, by omega, ?_⟩
  conv => lhs; unfold logRead
  rw [hstep]
  show decAll (openTxt xs :: _) = _
  rw [decAll_ok _ hd, htl]
  rfl
theorem logRead_stop (xs : List Int) (ho : openErr xs ≠ 0) : logRead xs = ([], 0) := by
  by_cases h0 : xs.length = 0
  · have : xs = [] := List.eq_nil_of_length_eq_zero h0
    subst this
    exact logRead_nil
  · unfold logRead
    rw [cutOf_bad xs h0 ho]
    rfl
theorem logRead_bad (xs : List Int) (hb : isB xs) (ho : openErr xs = 0) {c : Int} (hd : rDec (openTxt xs) = .error c) : logRead xs = ([], 0) := by
  obtain ⟨v, hv, hv1, hv2, _⟩ := seal_open xs hb ho
  have hstep := cutOf_step xs (by omega) ho
  unfold logRead
  rw [hstep]
  exact decAll_bad _ hd
theorem openTxt_len (xs : List Int) : (openTxt xs).length ≤ xs.length := by
  unfold openTxt
  split
  · rw [List.length_drop, List.length_take]; omega
  · simp
section
variable {w0 w : World} {F : HP} {b : Nat} {e : TypeId} {x y z u v q : Value}
theorem Hw.put3l (h : Hw w0 w (blk b (.cells #[x, y, z] e (0, 0)) * F)) (u v q : Value) : Hw w0 (((w.setCell ⟨b, 0, none⟩ u).setCell ⟨b, 1, none⟩ v).setCell ⟨b, 2, none⟩ q) (blk b (.cells #[u, v, q] e (0, 0)) * F) := h.put3
end
set_option maxHeartbeats 6400000 in
set_option maxRecDepth 100000 in
theorem radd_ok (m : Msg) (A1 A2 A3 A4 : Option Addr) (n1 n2 n3 n4 c1 c2 c3 c4 : Nat) (bytes : List Int) (dur room : Int) (w : World) (hC : MsgC w m (A1, n1, c1) (A2, n2, c2) (A3, n3, c3) (A4, n4, c4)) (hok : MsgOk m) (hsz : MsgSz m)
    (hl : bytes.length ≤ 1048576) (hr : room ≤ 1048576) :
    Calls Try.prog 23 #[.agg #[.string (strOfNums bytes), .int .i64 dur, .int .i64 room], .agg #[.int .i64 m.kind, .int .i64 m.src, .int .i64 m.dst, .int .i64 m.id, .int .i64 m.rev, .int .i64 m.epoch, .int .i64 m.slot, .bool m.flag, .slice A1 n1 c1, .slice A2 n2 c2, .slice A3 n3 c3, .slice A4 n4 c4]] w fun e w' => e = .returned (.tuple #[.agg #[.string (strOfNums (addB m bytes room)), .int .i64 dur, .int .i64 room], .int .i64 (addErr m bytes.length room)]) ∧ Below w.heap.size w w' := by
  obtain ⟨s, hs⟩ : ∃ s, s = strOfNums bytes := ⟨_, rfl⟩
  rw [← hs]
  have S := Aside0.mk hs
  have hss : s.size = bytes.length := by rw [hs, tx_size]
  have SS := Aside0.mk hss
  have H1 := Aside0.mk ((((Hw.start w).alloc (.cells #[.string s, .int .i64 dur, .int .i64 room] 51)).alloc (.cells #[.int .i64 m.kind, .int .i64 m.src, .int .i64 m.dst, .int .i64 m.id, .int .i64 m.rev, .int .i64 m.epoch, .int .i64 m.slot, .bool m.flag, .slice A1 n1 c1, .slice A2 n2 c2, .slice A3 n3 c3, .slice A4 n4 c4] 27)).alloc (.cells #[.string ⟨#[]⟩, .int .i64 0, .int .i64 0] 51))
  simp only [World.size_alloc] at H1
  have ER := Aside0.mk (refenc_ok m A1 A2 A3 A4 n1 n2 n3 n4 c1 c2 c3 c4 _ (hC.below H1.out.below) hok hsz)
  have GO := Aside0.mk (encMsg_bytes m)
  clear hC hok hsz hs hss
  have k0 := H1.out.cellAt (w.heap.size + 1) 0 (v := .int .i64 m.kind) rfl
  have k1 := H1.out.cellAt (w.heap.size + 1) 1 (v := .int .i64 m.src) rfl
  have k2 := H1.out.cellAt (w.heap.size + 1) 2 (v := .int .i64 m.dst) rfl
  have k3 := H1.out.cellAt (w.heap.size + 1) 3 (v := .int .i64 m.id) rfl
  have k4 := H1.out.cellAt (w.heap.size + 1) 4 (v := .int .i64 m.rev) rfl
  have k5 := H1.out.cellAt (w.heap.size + 1) 5 (v := .int .i64 m.epoch) rfl
  have k6 := H1.out.cellAt (w.heap.size + 1) 6 (v := .int .i64 m.slot) rfl
  have k7 := H1.out.cellAt (w.heap.size + 1) 7 (v := .bool m.flag) rfl
  have k8 := H1.out.cellAt (w.heap.size + 1) 8 (v := .slice A1 n1 c1) rfl
  have k9 := H1.out.cellAt (w.heap.size + 1) 9 (v := .slice A2 n2 c2) rfl
  have k10 := H1.out.cellAt (w.heap.size + 1) 10 (v := .slice A3 n3 c3) rfl
  have k11 := H1.out.cellAt (w.heap.size + 1) 11 (v := .slice A4 n4 c4) rfl
  have R2 := Aside0.mk hr
  have L2 := Aside0.mk hl
  clear hr hl
  by_cases hg : encGood m = true
  · obtain ⟨u1, u2⟩ := encGood_true (encGood_iff.1 hg).1 (encGood_iff.1 hg).2
    have GL := Aside0.mk (encGood_iff.1 hg).2
    have AE := Aside0.mk (show addErr m bytes.length room = if room < ((bytes.length + (recOf m).length : Nat) : Int) then 3 else 0 by unfold addErr; rw [if_pos hg])
    rw [u1, u2] at ER
    obtain ⟨p, hp⟩ : ∃ p, p = strOfNums (encMsg m) := ⟨_, rfl⟩
    rw [← hp] at ER
    have PP := Aside0.mk hp
    clear hg u1 u2 hp
    go_enter Try.func23, Try.ntmps23
    go_wp2_with fail
    refine ER.out.mono ?_
    rintro e w1 ⟨rfl, hbel⟩
    have H2 := Aside0.mk (H1.out.from_below hbel)
    clear hbel H1 ER k0 k1 k2 k3 k4 k5 k6 k7 k8 k9 k10 k11
    go_wp2_with fail
    refine (rseal_ok (encMsg m) _ rfl GL.out GO.out p PP.out H2.out).mono ?_
    rintro e w2 ⟨rfl, g⟩
    have H3 := Aside0.mk g
    obtain ⟨t, ht⟩ : ∃ t, t = strOfNums (sealOf (encMsg m)) := ⟨_, rfl⟩
    rw [← ht]
    have TT := Aside0.mk (show t = strOfNums (recOf m) from ht)
    have TS := Aside0.mk (show t.size = (recOf m).length by rw [ht, tx_size]; rfl)
    clear g H2 ht
    have k0 := H3.out.cellAt w.heap.size 0 (v := .string s) rfl
    have k1 := H3.out.cellAt w.heap.size 1 (v := .int .i64 dur) rfl
    have k2 := H3.out.cellAt w.heap.size 2 (v := .int .i64 room) rfl
    by_cases hf : ((bytes.length + (recOf m).length : Nat) : Int) ≤ room
    · have AP := Aside0.mk (refAppend_ok s t dur room w2 (by rw [SS.out, TS.out]; omega) R2.out)
      have A0 := Aside0.mk (show addErr m bytes.length room = 0 by rw [AE.out, if_neg (by omega)])
      have AB := Aside0.mk (show s ++ t = strOfNums (addB m bytes room) by unfold addB; rw [if_pos A0.out, tx_append, ← S.out, ← TT.out])
      unfold refD at AP
      clear hf
      go_wp2_with fail
      refine AP.out.mono ?_
      rintro e w3 ⟨rfl, hbel⟩
      have H4 := Aside0.mk (H3.out.from_below hbel)
      rw [AB.out]
      clear hbel H3 AP k0 k1 k2
      have z0 := H4.out.cellAt (w.heap.size + 1 + 1) 0 (v := .string ⟨#[]⟩) rfl
      have z1 := H4.out.cellAt (w.heap.size + 1 + 1) 1 (v := .int .i64 0) rfl
      have z2 := H4.out.cellAt (w.heap.size + 1 + 1) 2 (v := .int .i64 0) rfl
      have zf := H4.out.freeAt (w.heap.size + 1 + 1)
      obtain ⟨sa, hsa⟩ : ∃ sa, sa = strOfNums (addB m bytes room) := ⟨_, rfl⟩
      rw [← hsa]
      have SA := Aside0.mk hsa
      have G := Aside0.mk ((H4.out.atB (w.heap.size + 1 + 1)).put3l (.string sa) (.int .i64 dur) (.int .i64 room))
      clear H4 hsa
      go_wp2_with fail
      have y0 := G.out.cellAt (w.heap.size + 1 + 1) 0 (v := .string sa) rfl
      have y1 := G.out.cellAt (w.heap.size + 1 + 1) 1 (v := .int .i64 dur) rfl
      have y2 := G.out.cellAt (w.heap.size + 1 + 1) 2 (v := .int .i64 room) rfl
      exact bodyPost_ret (v := .tuple #[.agg #[.string sa, .int .i64 dur, .int .i64 room], .int .i64 0]) (by simp [results, Try.results23, go_sem, y0, y1, y2]) rfl ⟨by rw [A0.out, ← SA.out], G.out.below⟩
    · have AP := Aside0.mk (refAppend_full s t dur room w2 (by rw [SS.out, TS.out]; omega) (by rw [SS.out]; exact L2.out) (by rw [TS.out, recOf_len]; have := GL.out; omega))
      have A0 := Aside0.mk (show addErr m bytes.length room = 3 by rw [AE.out, if_pos (by omega)])
      have AB := Aside0.mk (show s = strOfNums (addB m bytes room) by unfold addB; rw [if_neg (by rw [A0.out]; decide)]; exact S.out)
      unfold refD at AP
      clear hf
      go_wp2_with fail
      refine AP.out.mono ?_
      rintro e w3 ⟨rfl, hbel⟩
      have H4 := Aside0.mk (H3.out.from_below hbel)
      clear hbel H3 AP k0 k1 k2
      have z0 := H4.out.cellAt (w.heap.size + 1 + 1) 0 (v := .string ⟨#[]⟩) rfl
      have z1 := H4.out.cellAt (w.heap.size + 1 + 1) 1 (v := .int .i64 0) rfl
      have z2 := H4.out.cellAt (w.heap.size + 1 + 1) 2 (v := .int .i64 0) rfl
      have zf := H4.out.freeAt (w.heap.size + 1 + 1)
      have G := Aside0.mk ((H4.out.atB (w.heap.size + 1 + 1)).put3l (.string s) (.int .i64 dur) (.int .i64 room))
      clear H4
      go_wp2_with fail
      have y0 := G.out.cellAt (w.heap.size + 1 + 1) 0 (v := .string s) rfl
      have y1 := G.out.cellAt (w.heap.size + 1 + 1) 1 (v := .int .i64 dur) rfl
      have y2 := G.out.cellAt (w.heap.size + 1 + 1) 2 (v := .int .i64 room) rfl
      exact bodyPost_ret (v := .tuple #[.agg #[.string s, .int .i64 dur, .int .i64 room], .int .i64 3]) (by simp [results, Try.results23, go_sem, y0, y1, y2]) rfl ⟨by rw [A0.out, ← AB.out], G.out.below⟩
  · obtain ⟨u1, u2⟩ := encGood_false (fun h => hg (encGood_iff.2 h))
    rw [u1, u2] at ER
    have A0 := Aside0.mk (show addErr m bytes.length room = 2 by unfold addErr; rw [if_neg hg])
    have AB := Aside0.mk (show s = strOfNums (addB m bytes room) by unfold addB; rw [if_neg (by rw [A0.out]; decide)]; exact S.out)
    clear hg u1 u2
    go_enter Try.func23, Try.ntmps23
    go_wp2_with fail
    refine ER.out.mono ?_
    rintro e w1 ⟨rfl, hbel⟩
    have H4 := Aside0.mk (H1.out.from_below hbel)
    clear hbel H1 ER k0 k1 k2 k3 k4 k5 k6 k7 k8 k9 k10 k11
    have k0 := H4.out.cellAt w.heap.size 0 (v := .string s) rfl
    have k1 := H4.out.cellAt w.heap.size 1 (v := .int .i64 dur) rfl
    have k2 := H4.out.cellAt w.heap.size 2 (v := .int .i64 room) rfl
    have z0 := H4.out.cellAt (w.heap.size + 1 + 1) 0 (v := .string ⟨#[]⟩) rfl
    have z1 := H4.out.cellAt (w.heap.size + 1 + 1) 1 (v := .int .i64 0) rfl
    have z2 := H4.out.cellAt (w.heap.size + 1 + 1) 2 (v := .int .i64 0) rfl
    have zf := H4.out.freeAt (w.heap.size + 1 + 1)
    have G := Aside0.mk ((H4.out.atB (w.heap.size + 1 + 1)).put3l (.string s) (.int .i64 dur) (.int .i64 room))
    clear H4
    go_wp2_with fail
    have y0 := G.out.cellAt (w.heap.size + 1 + 1) 0 (v := .string s) rfl
    have y1 := G.out.cellAt (w.heap.size + 1 + 1) 1 (v := .int .i64 dur) rfl
    have y2 := G.out.cellAt (w.heap.size + 1 + 1) 2 (v := .int .i64 room) rfl
    exact bodyPost_ret (v := .tuple #[.agg #[.string s, .int .i64 dur, .int .i64 room], .int .i64 2]) (by simp [results, Try.results23, go_sem, y0, y1, y2]) rfl ⟨by rw [A0.out, ← AB.out], G.out.below⟩
/-! Open -/
def NZ {α : Type} (r : Rd α) : Prop := ∀ c, r = .error c → c ≠ 0
theorem NZ.bind {α β : Type} {r : Rd α} {f : α → List Int → Rd β} (h : NZ r) (hf : ∀ a ys, NZ (f a ys)) : NZ (r.bind f) := by
  cases r with
  | error c =>
    intro d hd
    have hd2 : (Except.error c : Rd β) = .error d := hd
    injection hd2 with e
    exact e ▸ h c rfl
  | ok p => exact hf p.1 p.2
theorem nz_ok {α : Type} (p : α × List Int) : NZ (.ok p : Rd α) := fun c h => nomatch h
theorem nz_int (xs : List Int) : NZ (rInt xs) := fun c h => by
  unfold rInt at h
  split at h
  · cases h
  · rename_i h0; injection h with h; rw [← h]; exact h0
theorem nz_count (m : Int) (xs : List Int) : NZ (rCount m xs) := fun c h => by
  unfold rCount at h
  split at h
  · rename_i e he; injection h with h; subst h; exact nz_int xs _ he
  · split at h
    · injection h with h; rw [← h]; decide
    · cases h
theorem nz_take (n : Nat) (xs : List Int) : NZ (rTake n xs) := fun c h => by
  unfold rTake at h
  split at h
  · injection h with h; rw [← h]; decide
  · cases h
theorem nz_text (xs : List Int) : NZ (rText xs) := fun c h => by
  unfold rText at h
  split at h
  · rename_i e he; injection h with h; subst h; exact nz_count _ xs _ he
  · split at h
    · rename_i e he; injection h with h; subst h; exact nz_take _ _ _ he
    · cases h
theorem nz_flag (xs : List Int) : NZ (rFlag xs) := fun c h => by
  unfold rFlag at h
  split at h
  · injection h with h; rw [← h]; decide
  · split at h
    · injection h with h; rw [← h]; decide
    · cases h
theorem nz_tup (xs : List Int) : NZ (rTup xs) := (nz_text _).bind fun _ _ => (nz_text _).bind fun _ _ => (nz_text _).bind fun _ _ => nz_ok _
theorem nz_mut (xs : List Int) : NZ (rMut xs) := (nz_flag _).bind fun _ _ => (nz_tup _).bind fun _ _ => nz_ok _
theorem nz_row (xs : List Int) : NZ (rRow xs) := (nz_tup _).bind fun _ _ => (nz_int _).bind fun _ _ => (nz_int _).bind fun _ _ => nz_ok _
theorem nz_many {α : Type} {one : List Int → Rd α} (h : ∀ xs, NZ (one xs)) : ∀ (k : Nat) (xs : List Int), NZ (rMany one k xs)
  | 0, _ => nz_ok _
  | k + 1, xs => (h xs).bind fun _ ys => (nz_many h k ys).bind fun _ _ => nz_ok _
theorem nz_list {α : Type} {one : List Int → Rd α} (h : ∀ xs, NZ (one xs)) (xs : List Int) : NZ (rList one xs) := (nz_count _ _).bind fun _ _ => nz_many h _ _
theorem nz_msg (xs : List Int) : NZ (rMsg xs) := (nz_many nz_int 7 xs).bind fun _ _ => (nz_flag _).bind fun _ _ => (nz_list nz_int _).bind fun _ _ => (nz_list nz_mut _).bind fun _ _ => (nz_list nz_mut _).bind fun _ _ => (nz_list nz_row _).bind fun _ _ => nz_ok _
theorem rdec_nz {xs : List Int} {c : Int} (h : rDec xs = .error c) : c ≠ 0 := by
  unfold rDec at h
  split at h
  · injection h with h; rw [← h]; decide
  · split at h
    · rename_i e he; injection h with h; subst h; exact nz_msg xs _ he
    · cases h
    · injection h with h; rw [← h]; decide
def RLogPost (w : World) (bs : List Int) (room : Int) (e : Ending) (w' : World) : Prop := ∃ (A : Option Addr) (n c : Nat) (l : List MH), e = .returned (.tuple #[.agg #[.string (strOfNums (bs.take (logRead bs).2)), .int .i64 ((bs.take (logRead bs).2).length : Nat), .int .i64 room], .slice A n c]) ∧ l.map (·.m) = (logRead bs).1 ∧ l.length = n ∧ (∀ x ∈ l, x.H) ∧
  Hw w w' (crow 12 27 A n c (l.flatMap mhC) * (msgsP l * HP.emp))
set_option maxHeartbeats 12800000 in
set_option maxRecDepth 100000 in
theorem rlopen_ok (bs : List Int) (dur room : Int) (w : World) (hb : isB bs) (hl : bs.length ≤ 1048576) :
    Calls Try.prog 30 #[.agg #[.string (strOfNums bs), .int .i64 dur, .int .i64 room]] w (RLogPost w bs room) := by
  obtain ⟨s, hs⟩ : ∃ s, s = strOfNums bs := ⟨_, rfl⟩
  obtain ⟨n, hn⟩ : ∃ n, bs.length = n := ⟨_, rfl⟩
  rw [← hs]
  rw [hn] at hl
  have S := Aside0.mk hs
  have NL := Aside0.mk hn
  have BB := Aside0.mk hb
  have hss : s.size = n := by rw [hs, tx_size, hn]
  have H1 := Aside0.mk (((Hw.start w).alloc (.cells #[.string s, .int .i64 dur, .int .i64 room] 51)).alloc (.cells #[.string ⟨#[]⟩, .int .i64 0, .int .i64 0] 51))
  simp only [World.size_alloc] at H1
  have H1b := Aside0.mk (crow_none (sz := 12) (e := 27) (A := none) (n := 0) (cs := []) rfl rfl H1.out.emp_mul)
  clear hs hn hb H1
  go_enter Try.func30, Try.ntmps30
  go_upto_block 0 with fail
  go_cut [4, 5] (fun s4 s5 wc => ∃ (A : Option Addr) (n' c : Nat) (l : List MH), s4 = .slice A n' c ∧ s5 = .int .i64 ((logRead bs).2 : Nat) ∧ Aside0 (l.map (·.m) = (logRead bs).1) ∧ Aside0 (l.length = n') ∧ Aside0 (∀ x ∈ l, x.H) ∧
    Aside0 (Hw w wc (crow 12 27 A n' c (l.flatMap mhC) * (msgsP l * (blk w.heap.size (.cells #[.string s, .int .i64 dur, .int .i64 room] 51) * (blk (w.heap.size + 1) (.cells #[.string ⟨#[]⟩, .int .i64 0, .int .i64 0] 51) * HP.emp))))))
  case first =>
    go_wp2_with fail
    go_loopw [4, 5] (fun v i wr => ∃ (a : Nat) (A : Option Addr) (n' c : Nat) (l : List MH), a ≤ n ∧ i = .int .i64 a ∧ v = .slice A n' c ∧ n' ≤ a ∧ Aside0 (logRead bs = (l.map (·.m) ++ (logRead (bs.drop a)).1, a + (logRead (bs.drop a)).2)) ∧ Aside0 (l.length = n') ∧ Aside0 (∀ x ∈ l, x.H) ∧
      Aside0 (Hw w wr (crow 12 27 A n' c (l.flatMap mhC) * (msgsP l * (blk w.heap.size (.cells #[.string s, .int .i64 dur, .int .i64 room] 51) * (blk (w.heap.size + 1) (.cells #[.string ⟨#[]⟩, .int .i64 0, .int .i64 0] 51) * HP.emp)))))) (fun _ i _ => n - (intOf i).toNat)
    case atStart => exact ⟨0, none, 0, 0, [], Nat.zero_le _, rfl, rfl, Nat.le_refl _, ⟨by simp⟩, ⟨rfl⟩, ⟨by simp⟩, ⟨H1b.out.as (by show _ = crow 12 27 none 0 0 [] * (HP.emp * _); ac_rfl)⟩⟩
    case round =>
      obtain ⟨a, A, n', c, l, ha, rfl, rfl, hna, LR, LL, LH, HW⟩ := hrel
      clear H1b
      have k0 := HW.out.cellAt w.heap.size 0 (v := .string s) rfl
      have hcut := tx_slice_from (P := Try.prog) 9 Try.underlying9 bs (a : Int) a rfl (by rw [NL.out]; exact ha)
      obtain ⟨xs, hxs⟩ : ∃ xs, xs = bs.drop a := ⟨_, rfl⟩
      rw [← S.out, ← hxs] at hcut
      have XB : isB xs := fun x hx => BB.out x (List.mem_of_mem_drop (by rw [← hxs]; exact hx))
      have XL := Aside0.mk (show xs.length = n - a by rw [hxs, List.length_drop, NL.out])
      have LR2 := LR.out
      rw [← hxs] at LR2
      obtain ⟨s1, hs1⟩ : ∃ s1, s1 = strOfNums xs := ⟨_, rfl⟩
      rw [← hs1] at hcut
      have RO := Aside0.mk (ropen_ok (F := crow 12 27 A n' c (l.flatMap mhC) * (msgsP l * (blk w.heap.size (.cells #[.string s, .int .i64 dur, .int .i64 room] 51) * (blk (w.heap.size + 1) (.cells #[.string ⟨#[]⟩, .int .i64 0, .int .i64 0] 51) * HP.emp)))) xs (n - a) XL.out (by omega) XB s1 hs1 HW.out)
      have X2 := Aside0.mk XB
      by_cases ho : openErr xs = 0
      · cases hd : rDec (openTxt xs) with
        | ok m =>
          obtain ⟨v, hv, hv1, hv2, hstep⟩ := logRead_step xs XB ho hd
          rw [hv, ho] at RO
          have TXB := Aside0.mk (openTxt_isB xs XB)
          have TXL := Aside0.mk (openTxt_len xs)
          have DR := Aside0.mk (show decRes (openTxt xs) = (m, 0) by unfold decRes; rw [hd])
          have DN := Aside0.mk (show bs.drop (a + v) = xs.drop v by rw [hxs, List.drop_drop])
          have LR3 := Aside0.mk (show logRead bs = (l.map (·.m) ++ m :: (logRead (bs.drop (a + v))).1, a + v + (logRead (bs.drop (a + v))).2) by rw [LR2, hstep, DN.out]; simp [Nat.add_assoc])
          have hav : a + v ≤ n := by have := XL.out; omega
          clear LR2 hstep XB hs1 hxs hd ho hv LR hv1
          go_wp2_with fail
          refine RO.out.mono ?_
          rintro e w1 ⟨rfl, g⟩
          have H2 := Aside0.mk g
          clear g RO HW k0
          go_wp2_with fail
          refine (refdec_ok (openTxt xs) TXB.out (by have h1 := TXL.out; have h2 := XL.out; omega) w1).mono ?_
          rintro e w2 ⟨y, r1, r2, r3, r4, kk, hr, hh, rfl, g⟩
          obtain ⟨e1, e2⟩ : y = m ∧ 0 = kk := by have h := DR.out.symm.trans hr; injection h with h1 h2; exact ⟨h1.symm, h2⟩
          subst e1
          subst e2
          obtain ⟨T1, p1, d1⟩ := r1
          obtain ⟨T2, p2, d2⟩ := r2
          obtain ⟨T3, p3, d3⟩ := r3
          obtain ⟨T4, p4, d4⟩ := r4
          have HY := Aside0.mk hh
          have H4 := Aside0.mk ((H2.out.trans g).alloc (.cells #[.int .i64 0, .int .i64 0, .int .i64 0, .int .i64 0, .int .i64 0, .int .i64 0, .int .i64 0, .bool false, .slice none 0 0, .slice none 0 0, .slice none 0 0, .slice none 0 0] 27))
          have hw1 := (i64_in2 ((a : Int) + v) (by omega) (by omega)).1
          have hw2 := (i64_in2 ((a : Int) + v) (by omega) (by omega)).2
          clear hr hh g H2 DR
          go_wp2_with (first | (refine Hw.store_row rfl 27 (.tmp 9) (.tmp 25) rfl w2.heap.size #[.int .i64 y.kind, .int .i64 y.src, .int .i64 y.dst, .int .i64 y.id, .int .i64 y.rev, .int .i64 y.epoch, .int .i64 y.slot, .bool y.flag, .slice T1 p1 d1, .slice T2 p2 d2, .slice T3 p3 d3, .slice T4 p4 d4] rfl rfl H4.out (by kernel_rfl) (by rfl) (by first | kernel_rfl | rfl | simp [Value.oneCell']) ?_; intro w4 H5; have y0 := H5.out.cellAt w2.heap.size 0 (v := .int .i64 y.kind) rfl; have y1 := H5.out.cellAt w2.heap.size 1 (v := .int .i64 y.src) rfl; have y2 := H5.out.cellAt w2.heap.size 2 (v := .int .i64 y.dst) rfl; have y3 := H5.out.cellAt w2.heap.size 3 (v := .int .i64 y.id) rfl; have y4 := H5.out.cellAt w2.heap.size 4 (v := .int .i64 y.rev) rfl; have y5 := H5.out.cellAt w2.heap.size 5 (v := .int .i64 y.epoch) rfl; have y6 := H5.out.cellAt w2.heap.size 6 (v := .int .i64 y.slot) rfl; have y7 := H5.out.cellAt w2.heap.size 7 (v := .bool y.flag) rfl; have y8 := H5.out.cellAt w2.heap.size 8 (v := .slice T1 p1 d1) rfl; have y9 := H5.out.cellAt w2.heap.size 9 (v := .slice T2 p2 d2) rfl; have y10 := H5.out.cellAt w2.heap.size 10 (v := .slice T3 p3 d3) rfl; have y11 := H5.out.cellAt w2.heap.size 11 (v := .slice T4 p4 d4) rfl; have H6n := H5.out.alloc (.cells #[.int .i64 y.kind, .int .i64 y.src, .int .i64 y.dst, .int .i64 y.id, .int .i64 y.rev, .int .i64 y.epoch, .int .i64 y.slot, .bool y.flag, .slice T1 p1 d1, .slice T2 p2 d2, .slice T3 p3 d3, .slice T4 p4 d4] 27); have RDB := blk_cells (H6n.atB w4.heap.size); have H6 := Aside0.mk (H6n.as (by ac_rfl : _ = crow 12 27 A n' c (l.flatMap mhC) * (blk w4.heap.size (.cells #[.int .i64 y.kind, .int .i64 y.src, .int .i64 y.dst, .int .i64 y.id, .int .i64 y.rev, .int .i64 y.epoch, .int .i64 y.slot, .bool y.flag, .slice T1 p1 d1, .slice T2 p2 d2, .slice T3 p3 d3, .slice T4 p4 d4] 27) * (blk w2.heap.size (.cells #[.int .i64 y.kind, .int .i64 y.src, .int .i64 y.dst, .int .i64 y.id, .int .i64 y.rev, .int .i64 y.epoch, .int .i64 y.slot, .bool y.flag, .slice T1 p1 d1, .slice T2 p2 d2, .slice T3 p3 d3, .slice T4 p4 d4] 27) * (listsP y.nodes y.muts y.pre y.rows (T1, p1, d1) (T2, p2, d2) (T3, p3, d3) (T4, p4, d4) * (HP.emp * (msgsP l * (blk w.heap.size (.cells #[.string s, .int .i64 dur, .int .i64 room] 51) * (blk (w.heap.size + 1) (.cells #[.string ⟨#[]⟩, .int .i64 0, .int .i64 0] 51) * HP.emp))))))))); clear H6n) |
            (at_builtin; refine crow_append (news := [.int .i64 y.kind, .int .i64 y.src, .int .i64 y.dst, .int .i64 y.id, .int .i64 y.rev, .int .i64 y.epoch, .int .i64 y.slot, .bool y.flag, .slice T1 p1 d1, .slice T2 p2 d2, .slice T3 p3 d3, .slice T4 p4 d4]) (m := 1) (c := 1) rfl (.tmp 29) (.tmp 31) 47 (.agg #[.int .i64 0, .int .i64 0, .int .i64 0, .int .i64 0, .int .i64 0, .int .i64 0, .int .i64 0, .bool false, .slice none 0 0, .slice none 0 0, .slice none 0 0, .slice none 0 0]) 160 rfl Try.underlying47 Try.infoMsg rfl (by decide) rfl rfl H6.out rfl (by intro u hu; simp only [List.mem_cons, List.not_mem_nil, or_false] at hu; rcases hu with rfl | rfl | rfl | rfl | rfl | rfl | rfl | rfl | rfl | rfl | rfl | rfl <;> rfl) (fun _ => ⟨_, rfl, RDB⟩) (by decide) (by omega) ?_; intro A7 c7 w7 H7))
          clear RDB H6 H5 H4 y0 y1 y2 y3 y4 y5 y6 y7 y8 y9 y10 y11 hw1 hw2
          go_roundw
          case rel => exact ⟨a + v, A7, n' + 1, c7, l ++ [⟨y, (T1, p1, d1), (T2, p2, d2), (T3, p3, d3), (T4, p4, d4)⟩], hav, by go_num, rfl, by omega, ⟨by rw [LR3.out]; simp⟩, ⟨by rw [List.length_append, LL.out]; rfl⟩, ⟨fun z hz => (List.mem_append.1 hz).elim (LH.out z) (fun hz => by rw [List.mem_singleton] at hz; subst hz; exact HY.out)⟩, ⟨by
            have h := (H7.out.dropB w4.heap.size).dropB w2.heap.size
            rw [msgsP_snoc, List.flatMap_append]
            exact (h.as (Q := HP.emp * (crow 12 27 A7 (n' + 1) c7 (l.flatMap mhC ++ [.int .i64 y.kind, .int .i64 y.src, .int .i64 y.dst, .int .i64 y.id, .int .i64 y.rev, .int .i64 y.epoch, .int .i64 y.slot, .bool y.flag, .slice T1 p1 d1, .slice T2 p2 d2, .slice T3 p3 d3, .slice T4 p4 d4]) * (listsP y.nodes y.muts y.pre y.rows (T1, p1, d1) (T2, p2, d2) (T3, p3, d3) (T4, p4, d4) * msgsP l * (blk w.heap.size (.cells #[.string s, .int .i64 dur, .int .i64 room] 51) * (blk (w.heap.size + 1) (.cells #[.string ⟨#[]⟩, .int .i64 0, .int .i64 0] 51) * HP.emp))))) (by ac_rfl)).right⟩⟩
          case measure => simp [intOf]; omega
        | error cc =>
          have hst := logRead_bad xs XB ho hd
          rw [ho] at RO
          have LR3 := Aside0.mk (show logRead bs = (l.map (·.m), a) by rw [LR2, hst]; simp)
          have hcc := rdec_nz hd
          have hcc2 : (cc == 0) = false := by simpa using hcc
          have hcc3 : (cc != 0) = true := by simpa using hcc
          have TXB := Aside0.mk (openTxt_isB xs XB)
          have TXL := Aside0.mk (openTxt_len xs)
          have DR := Aside0.mk (show decRes (openTxt xs) = (zeroMsg, cc) by unfold decRes; rw [hd])
          clear LR2 hst XB hs1 hxs hd ho LR hcc
          go_wp2_with fail
          refine RO.out.mono ?_
          rintro e w1 ⟨rfl, g⟩
          have H2 := Aside0.mk g
          clear g RO HW k0
          go_wp2_with fail
          refine (refdec_ok (openTxt xs) TXB.out (by have h1 := TXL.out; have h2 := XL.out; omega) w1).mono ?_
          rintro e w2 ⟨y, r1, r2, r3, r4, kk, hr, hh, rfl, g⟩
          obtain ⟨e1, e2⟩ : zeroMsg = y ∧ cc = kk := by have h := DR.out.symm.trans hr; injection h with h1 h2; exact ⟨h1, h2⟩
          subst e2
          obtain ⟨T1, p1, d1⟩ := r1
          obtain ⟨T2, p2, d2⟩ := r2
          obtain ⟨T3, p3, d3⟩ := r3
          obtain ⟨T4, p4, d4⟩ := r4
          have H4 := Aside0.mk ((H2.out.trans g).alloc (.cells #[.int .i64 0, .int .i64 0, .int .i64 0, .int .i64 0, .int .i64 0, .int .i64 0, .int .i64 0, .bool false, .slice none 0 0, .slice none 0 0, .slice none 0 0, .slice none 0 0] 27))
          clear hr hh g H2 DR e1
          go_wp2_with (refine Hw.store_row rfl 27 (.tmp 9) (.tmp 25) rfl w2.heap.size #[.int .i64 y.kind, .int .i64 y.src, .int .i64 y.dst, .int .i64 y.id, .int .i64 y.rev, .int .i64 y.epoch, .int .i64 y.slot, .bool y.flag, .slice T1 p1 d1, .slice T2 p2 d2, .slice T3 p3 d3, .slice T4 p4 d4] rfl rfl H4.out (by kernel_rfl) (by rfl) (by first | kernel_rfl | rfl | simp [Value.oneCell']) ?_; intro w4 H5)
          go_meet
          exact ⟨A, n', c, l, rfl, by rw [LR3.out], ⟨by rw [LR3.out]⟩, LL, LH, ⟨(H5.out.as (by ac_rfl : _ = crow 12 27 A n' c (l.flatMap mhC) * (msgsP l * (blk w.heap.size (.cells #[.string s, .int .i64 dur, .int .i64 room] 51) * (blk (w.heap.size + 1) (.cells #[.string ⟨#[]⟩, .int .i64 0, .int .i64 0] 51) * HP.emp))) * (blk w2.heap.size (.cells #[.int .i64 y.kind, .int .i64 y.src, .int .i64 y.dst, .int .i64 y.id, .int .i64 y.rev, .int .i64 y.epoch, .int .i64 y.slot, .bool y.flag, .slice T1 p1 d1, .slice T2 p2 d2, .slice T3 p3 d3, .slice T4 p4 d4] 27) * (listsP y.nodes y.muts y.pre y.rows (T1, p1, d1) (T2, p2, d2) (T3, p3, d3) (T4, p4, d4) * HP.emp)))).left⟩⟩
      · have hst := logRead_stop xs ho
        have LR3 := Aside0.mk (show logRead bs = (l.map (·.m), a) by rw [LR2, hst]; simp)
        obtain ⟨oe, hoe⟩ : ∃ oe, oe = openErr xs := ⟨_, rfl⟩
        rw [← hoe] at RO ho
        have hcc2 : (oe == 0) = false := by simpa using ho
        have hcc3 : (oe != 0) = true := by simpa using ho
        clear LR2 hst XB hs1 hxs ho LR hoe
        go_wp2_with fail
        refine RO.out.mono ?_
        rintro e w1 ⟨rfl, g⟩
        have H2 := Aside0.mk g
        clear g RO HW k0
        go_wp2_with fail
        go_meet
        exact ⟨A, n', c, l, rfl, by rw [LR3.out], ⟨by rw [LR3.out]⟩, LL, LH, H2⟩
  case rest =>
    obtain ⟨A, n', c, l, rfl, rfl, LM, LL, LH, HW⟩ := hcut
    clear H1b
    obtain ⟨k, hk⟩ : ∃ k, (logRead bs).2 = k := ⟨_, rfl⟩
    have hkn : k ≤ n := by have h := (decAll_inv _ bs (Nat.le_refl _) BB.out).2.2.2; rw [hk, NL.out] at h; exact h
    have TT := Aside0.mk (show s.extract 0 ((k : Int)).toNat = strOfNums (bs.take k) by rw [S.out, Int.toNat_natCast]; exact tx_to bs k)
    have TL := Aside0.mk (show (strOfNums (bs.take k)).size = k by rw [tx_size, List.length_take, NL.out]; omega)
    have TR := Aside0.mk (fun W => refTruncate_ok s dur room (k : Int) W (by omega) (by omega) (by omega) _ TT.out)
    have HK := Aside0.mk hk
    unfold refD at TR
    rw [TL.out] at TR
    rw [hk]
    have KL := Aside0.mk (show (bs.take k).length = k by rw [List.length_take, NL.out]; omega)
    obtain ⟨t, ht⟩ : ∃ t, t = strOfNums (bs.take k) := ⟨_, rfl⟩
    rw [← ht] at TR
    have TQ := Aside0.mk ht
    have k0 := HW.out.cellAt w.heap.size 0 (v := .string s) rfl
    have k1 := HW.out.cellAt w.heap.size 1 (v := .int .i64 dur) rfl
    have k2 := HW.out.cellAt w.heap.size 2 (v := .int .i64 room) rfl
    clear hk hkn ht TT
    go_wp2_with fail
    refine (TR.out _).mono ?_
    rintro e w1 ⟨rfl, hbel⟩
    have H2 := Aside0.mk (HW.out.from_below hbel)
    clear hbel HW TR k0 k1 k2
    have k0 := H2.out.cellAt w.heap.size 0 (v := .string s) rfl
    have k1 := H2.out.cellAt w.heap.size 1 (v := .int .i64 dur) rfl
    have k2 := H2.out.cellAt w.heap.size 2 (v := .int .i64 room) rfl
    have kf := H2.out.freeAt w.heap.size
    have z0 := H2.out.cellAt (w.heap.size + 1) 0 (v := .string ⟨#[]⟩) rfl
    have z1 := H2.out.cellAt (w.heap.size + 1) 1 (v := .int .i64 0) rfl
    have z2 := H2.out.cellAt (w.heap.size + 1) 2 (v := .int .i64 0) rfl
    have zf := H2.out.freeAt (w.heap.size + 1)
    have G := Aside0.mk (((H2.out.atB w.heap.size).put3l (.string t) (.int .i64 k) (.int .i64 room)).atB (w.heap.size + 1) |>.put3l (.string t) (.int .i64 k) (.int .i64 room))
    clear H2
    go_wp2_with fail
    have y0 := G.out.cellAt (w.heap.size + 1) 0 (v := .string t) rfl
    have y1 := G.out.cellAt (w.heap.size + 1) 1 (v := .int .i64 k) rfl
    have y2 := G.out.cellAt (w.heap.size + 1) 2 (v := .int .i64 room) rfl
    refine bodyPost_ret (v := .tuple #[.agg #[.string t, .int .i64 k, .int .i64 room], .slice A n' c]) (by simp [results, Try.results30, go_sem, y0, y1, y2]) rfl ⟨A, n', c, l, by rw [HK.out, KL.out, ← TQ.out], LM.out, LL.out, LH.out, ?_⟩
    exact (((G.out.dropB (w.heap.size + 1)).dropB w.heap.size)).as (by ac_rfl)
end Go.Proofs.Ytckdkbjobipniaa
