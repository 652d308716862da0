/- DiskPlays' walk. -/
import Derived.Test.YtacnogbdifgmeaaDiskOne
import Derived.Test.YtacnogbdifgmeaaWLast
import Derived.Test.YtacnogbdifgmeaaRefDisk
import Derived.Test.YtacnogbdifgmeaaKindsDisk
set_option linter.unusedVariables false
set_option linter.unusedSimpArgs false
namespace Go.Proofs.Ytacnogbdifgmeaa
open Go.RowKit Go.Proofs.YtacnogbdifgmeaaW.PrintWords Go.Proofs.YtacnogbdifgmeaaW.PrintLast

theorem op_at {w : World} {A : Option Addr} {n : Nat} {ops : List (Int × List Int × Int)} (h : KOp.C w A n ops) (k : Nat) (hk : k < n) :
    ∃ ad kind data N A' c', A = some ad ∧ Aside0 (ops[k]? = some (kind, data, N)) ∧ w.cell? (ad.add (k * 3)) = some (.int .i64 kind) ∧ w.cell? ⟨(ad.add (k * 3)).block, (ad.add (k * 3)).off + 1, none⟩ = some (.slice A' data.length c') ∧ w.cell? ⟨(ad.add (k * 3)).block, (ad.add (k * 3)).off + 2, none⟩ = some (.int .i64 N) ∧
      data.length ≤ c' ∧ Aside0 ((Kd.int .u8).C w A' data.length data) := by
  obtain ⟨ad, e, hc⟩ := h.2.2 (by omega)
  have hl : k < ops.length := by have := h.1; omega
  obtain ⟨c, hs, hK, hcell⟩ := hc k _ (List.getElem?_eq_getElem hl)
  obtain ⟨c0, c1, rfl, h0, c2, c3, rfl, ⟨A', c', h2, hl', hC⟩, h3⟩ := hK
  have h0 : c0 = [.int .i64 ops[k].1] := h0
  have h3 : c3 = [.int .i64 ops[k].2.2] := h3
  subst h0; subst h2; subst h3
  refine ⟨ad, ops[k].1, ops[k].2.1, ops[k].2.2, A', c', e, ⟨List.getElem?_eq_getElem hl⟩, ?_, ?_, ?_, hl', ⟨hC⟩⟩
  · exact hcell 0 _ rfl
  · rw [← add_field _ _ _ (by decide)]; exact hcell 1 _ rfl
  · rw [← add_field _ _ _ (by decide)]; exact hcell 2 _ rfl

theorem op_at2 {w0 w : World} {A : Option Addr} {n : Nat} {ops : List (Int × List Int × Int)} (h : KOp.C w0 A n ops) (hb : Below w0.heap.size w0 w) (k : Nat) (hk : k < n) :
    ∃ ad kind data N A' c', A = some ad ∧ Aside0 (ops[k]? = some (kind, data, N)) ∧ w.cell? (ad.add (k * 3)) = some (.int .i64 kind) ∧ w.cell? ⟨(ad.add (k * 3)).block, (ad.add (k * 3)).off + 1, none⟩ = some (.slice A' data.length c') ∧ w.cell? ⟨(ad.add (k * 3)).block, (ad.add (k * 3)).off + 2, none⟩ = some (.int .i64 N) ∧
      data.length ≤ c' ∧ Aside0 ((Kd.int .u8).C w0 A' data.length data) := by
  obtain ⟨ad, kind, data, N, A', c', e1, hx, k0, k1, k2, hdc, hdC⟩ := op_at h k hk
  exact ⟨ad, kind, data, N, A', c', e1, hx, pw_cell_below hb k0, pw_cell_below hb k1, pw_cell_below hb k2, hdc, hdC⟩
/-- The document's disk in its variable, and the call at hand in its own. -/
def refBlk (g : Nat) (s : ByteArray) (dur room : Int) : HP := blk g (.cells #[.string s, .int .i64 dur, .int .i64 room] 54)
def opBlk (b : Nat) (kind : Int) (v : Value) (N : Int) : HP := blk b (.cells #[.int .i64 kind, v, .int .i64 N] 56)
theorem ref_facts {w W : World} {F : HP} {g : Nat} {s : ByteArray} {dur room : Int} (h : Hw w W (refBlk g s dur room * F)) :
    W.cell? ⟨g, 0, none⟩ = some (.string s) ∧ W.cell? ⟨g, 1, none⟩ = some (.int .i64 dur) ∧ W.cell? ⟨g, 2, none⟩ = some (.int .i64 room) ∧ W.frozen? ⟨g, 0, none⟩ = false ∧ W.frozen? ⟨g, 1, none⟩ = false ∧ W.frozen? ⟨g, 2, none⟩ = false ∧ g < W.heap.size :=
  ⟨h.cell (i := 0) rfl, h.cell (i := 1) rfl, h.cell (i := 2) rfl, h.unfrozen 0, h.unfrozen 1, h.unfrozen 2, h.lt⟩
theorem op_facts {w W : World} {F : HP} {b : Nat} {kind N : Int} {v : Value} (h : Hw w W (opBlk b kind v N * F)) :
    W.cell? ⟨b, 0, none⟩ = some (.int .i64 kind) ∧ W.cell? ⟨b, 1, none⟩ = some v ∧ W.cell? ⟨b, 2, none⟩ = some (.int .i64 N) ∧ b < W.heap.size :=
  ⟨h.cell (i := 0) rfl, h.cell (i := 1) rfl, h.cell (i := 2) rfl, h.lt⟩
theorem ref_set {w W : World} {F : HP} {g : Nat} {s s' : ByteArray} {dur dur' room room' : Int} (h : Hw w W (refBlk g s dur room * F)) :
    Hw w (((W.setCell ⟨g, 0, none⟩ (.string s')).setCell ⟨g, 1, none⟩ (.int .i64 dur')).setCell ⟨g, 2, none⟩ (.int .i64 room')) (refBlk g s' dur' room' * F) :=
  ((h.set 0 (.string s')).set 1 (.int .i64 dur')).set 2 (.int .i64 room')
/-- What the switch leaves. -/
def Plays (w : World) (g : Nat) (room : Int) (d bad code : Value) (wx : World) : Prop :=
  ∃ (p : Nat) (bytes : List Int) (dur c : Int), d = .pointer (some ⟨p, 0, none⟩) ∧ bad = .int .i64 c ∧ code = .int .i64 c ∧ 0 ≤ dur ∧ dur ≤ bytes.length ∧ bytes.length ≤ room ∧ Aside0 (Hw w wx (disk p bytes dur room * (refBlk g (strOfNums bytes) dur room * HP.emp)))

set_option maxHeartbeats 3200000 in
set_option maxRecDepth 100000 in
theorem diskPlays_ok (room : Int) (A : Option Addr) (ops : List (Int × List Int × Int)) (n ca : Nat) (w : World) (hA : KOp.C w A n ops) (hS : ∀ o ∈ ops, o.2.1.length ≤ 140737488351232) (hr : 0 ≤ room) (hr2 : room ≤ 1048576) :
    Calls Try.prog 8 #[.int .i64 room, .slice A n ca] w fun e w' => e = .returned (.bool true) ∧ Below w.heap.size w w' := by
  have hm := C_max' hA
  have HA := Aside0.mk hA
  have HS := Aside0.mk hS
  clear hA hS
  go_enter Try.func8, Try.ntmps8
  go_wp2_with fail
  refine (awake_ok (Hw.start w)).mono ?_
  rintro e w1 ⟨rfl, h1⟩
  have H1 := Aside0.mk h1
  clear h1
  go_wp2_with fail
  refine (new_ok room hr hr2 H1.out).mono ?_
  rintro e w2 ⟨p, rfl, h2⟩
  have H2 := Aside0.mk h2
  clear h2 H1
  go_wp2_with fail
  refine (refWrong_ok room w2 hr hr2).mono ?_
  rintro e w3 ⟨rfl, hd⟩
  have H3 := Aside0.mk (H2.out.drawn hd)
  clear hd H2
  have H4 := Aside0.mk (H3.out.alloc (.cells #[.string ByteArray.empty, .int .i64 0, .int .i64 room] 54))
  clear H3
  go_wp2_with fail
  obtain ⟨g, hg⟩ : ∃ g, g = w3.heap.size := ⟨_, rfl⟩
  rw [← hg] at H4
  rw [← hg]
  clear hg
  go_loopw [44, 5] (fun i d wr => ∃ (k p : Nat) (bytes : List Int) (dur : Int), k ≤ n ∧ i = .int .i64 k ∧ d = .pointer (some ⟨p, 0, none⟩) ∧ 0 ≤ dur ∧ dur ≤ bytes.length ∧ bytes.length ≤ room ∧
    Aside0 (Hw w wr (disk p bytes dur room * (refBlk g (strOfNums bytes) dur room * HP.emp)))) (fun i _ _ => n - (intOf i).toNat)
  case atStart => exact ⟨0, p, [], 0, Nat.zero_le _, rfl, rfl, by omega, by simp, by simpa using hr, ⟨H4.out.as (Q := disk p [] 0 room * (refBlk g (strOfNums []) 0 room * HP.emp)) (by rw [show refBlk g (strOfNums []) 0 room = blk g (.cells #[.string ByteArray.empty, .int .i64 0, .int .i64 room] 54) from rfl]; ac_rfl)⟩⟩
  case round =>
    obtain ⟨k, p, bytes, dur, hk, rfl, rfl, h0, h1, h2, HW⟩ := hrel
    clear H4
    by_cases hlt : k < n
    · obtain ⟨ad, kind, data, N, A', c', e1, hx, k0, k1, k2, hdc, hdC⟩ := op_at2 HA.out HW.out.below k hlt
      subst e1
      have dmax : data.length ≤ 140737488351232 := HS.out _ (List.mem_of_getElem? hx.out)
      have hcD : ∀ W, Below w.heap.size w W → (convert 22 9 (.slice A' data.length c')).run Try.prog W = .ok (.string (strOfNums data)) W := fun W hW => Kd.C_string Try.underlying22 Try.underlying5 Try.underlying9 (Kd.C_below hdC.out hW)
      go_upto_block 2 with fail
      have hw1 := HW.out.alloc (.cells #[.int .i64 kind, .slice A' data.length c', .int .i64 N] 56)
      obtain ⟨b, hb⟩ : ∃ b, b = wr.heap.size := ⟨_, rfl⟩
      rw [← hb] at hw1
      rw [← hb]
      obtain ⟨wa, hwa⟩ : ∃ wa, wa = wr.alloc (.cells #[.int .i64 kind, .slice A' data.length c', .int .i64 N] 56) := ⟨_, rfl⟩
      rw [← hwa] at hw1
      rw [← hwa]
      have HA1 := Aside0.mk (hw1.as (Q := disk p bytes dur room * (refBlk g (strOfNums bytes) dur room * (opBlk b kind (.slice A' data.length c') N * HP.emp))) (by unfold opBlk; ac_rfl))
      clear hw1 hwa hb HW k0 k1 k2
      go_cut [5, 11, 12] (Plays w g room)
      case first =>
        have hsz : (strOfNums bytes).size = bytes.length := strOfNums_size _
        have HSZ := Aside0.mk hsz
        clear hsz
        obtain ⟨s0, hs0⟩ : ∃ s0, s0 = strOfNums bytes := ⟨_, rfl⟩
        rw [← hs0] at HA1 HSZ
        have S0 := Aside0.mk hs0
        clear hs0
        obtain ⟨o0, o1, o2, ob⟩ := op_facts (HA1.out.as (Q := opBlk b kind (.slice A' data.length c') N * (disk p bytes dur room * (refBlk g s0 dur room * HP.emp))) (by ac_rfl))
        by_cases q0 : kind = 0
        · subst q0
          obtain ⟨dl, hdl⟩ : ∃ dl, dl = data.length := ⟨_, rfl⟩
          rw [← hdl] at hdc hcD o1 HA1 dmax
          rw [← hdl]
          have DL := Aside0.mk hdl
          have bw := HA1.out.below
          clear hdl
          by_cases fit : (bytes.length : Int) + dl ≤ room
          · go_wp2_with fail
            refine (append1g_ok p bytes dur room data A' dl c' _ (by rfl) (HA1.out) hr hr2 DL.out hdc (Ent_arg (by rw [DL.out]; exact hdC.out) _) (by omega)).mono ?_
            rintro e w5 ⟨rfl, h5⟩
            have H5 := Aside0.mk h5
            obtain ⟨_, p1, _, pb⟩ := op_facts (h5.as (Q := opBlk b 0 (.slice A' dl c') N * (disk p (bytes ++ data) dur room * (refBlk g s0 dur room * HP.emp))) (by ac_rfl))
            obtain ⟨g0, g1, g2, _, _, _, gl⟩ := ref_facts (h5.as (Q := refBlk g s0 dur room * (disk p (bytes ++ data) dur room * (opBlk b 0 (.slice A' dl c') N * HP.emp))) (by ac_rfl))
            have b5 := h5.below
            clear h5 HA1 o0 o1 o2
            go_wp2_with fail
            refine (refAppend_ok s0 (strOfNums data) dur room _ (by rw [HSZ.out, strOfNums_size, ← DL.out]; exact fit) hr2).mono ?_
            rintro e w6 ⟨rfl, h6⟩
            have H6 := Aside0.mk (H5.out.from_below h6)
            obtain ⟨g0, g1, g2, f0, f1, f2, gl⟩ := ref_facts (H6.out.as (Q := refBlk g s0 dur room * (disk p (bytes ++ data) dur room * (opBlk b 0 (.slice A' dl c') N * HP.emp))) (by ac_rfl))
            clear H5 h6
            unfold refD
            go_wp2_with fail
            go_meet
            refine ⟨p, bytes ++ data, dur, 0, rfl, rfl, rfl, h0, by rw [List.length_append]; omega, by rw [List.length_append]; have := DL.out; omega, ⟨?_⟩⟩
            have := ref_set (s' := s0 ++ strOfNums data) (dur' := dur) (room' := room) (H6.out.as (Q := refBlk g s0 dur room * (disk p (bytes ++ data) dur room * (opBlk b 0 (.slice A' dl c') N * HP.emp))) (by ac_rfl))
            rw [show strOfNums (bytes ++ data) = s0 ++ strOfNums data by rw [S0.out, strOfNums_append]]
            exact (this.as (Q := disk p (bytes ++ data) dur room * (refBlk g (s0 ++ strOfNums data) dur room * HP.emp) * opBlk b 0 (.slice A' dl c') N) (by ac_rfl)).left
          · go_wp2_with fail
            refine (append1g_full p bytes dur room data A' dl c' _ (by rfl) (HA1.out) hr hr2 DL.out hdc (Ent_arg (by rw [DL.out]; exact hdC.out) _) (by omega) (by omega)).mono ?_
            rintro e w5 ⟨rfl, h5⟩
            have H5 := Aside0.mk h5
            obtain ⟨_, p1, _, pb⟩ := op_facts (h5.as (Q := opBlk b 0 (.slice A' dl c') N * (disk p bytes dur room * (refBlk g s0 dur room * HP.emp))) (by ac_rfl))
            obtain ⟨g0, g1, g2, _, _, _, gl⟩ := ref_facts (h5.as (Q := refBlk g s0 dur room * (disk p bytes dur room * (opBlk b 0 (.slice A' dl c') N * HP.emp))) (by ac_rfl))
            have b5 := h5.below
            clear h5 HA1 o0 o1 o2
            go_wp2_with fail
            refine (refAppend_full s0 (strOfNums data) dur room _ (by rw [HSZ.out, strOfNums_size, ← DL.out]; omega) (by rw [HSZ.out]; omega) (by rw [strOfNums_size, ← DL.out]; omega)).mono ?_
            rintro e w6 ⟨rfl, h6⟩
            have H6 := Aside0.mk (H5.out.from_below h6)
            obtain ⟨g0, g1, g2, f0, f1, f2, gl⟩ := ref_facts (H6.out.as (Q := refBlk g s0 dur room * (disk p bytes dur room * (opBlk b 0 (.slice A' dl c') N * HP.emp))) (by ac_rfl))
            clear H5 h6
            unfold refD
            go_wp2_with fail
            go_meet
            refine ⟨p, bytes, dur, 3, rfl, rfl, rfl, h0, h1, h2, ⟨?_⟩⟩
            have := ref_set (s' := s0) (dur' := dur) (room' := room) (H6.out.as (Q := refBlk g s0 dur room * (disk p bytes dur room * (opBlk b 0 (.slice A' dl c') N * HP.emp))) (by ac_rfl))
            rw [← S0.out]
            exact (this.as (Q := disk p bytes dur room * (refBlk g s0 dur room * HP.emp) * opBlk b 0 (.slice A' dl c') N) (by ac_rfl)).left
        by_cases q1 : kind = 1
        · subst q1
          go_wp2_with fail
          refine (sync_ok p bytes dur room HA1.out).mono ?_
          rintro e w5 ⟨rfl, h5⟩
          have H5 := Aside0.mk h5
          obtain ⟨g0, g1, g2, _, _, _, gl⟩ := ref_facts (h5.as (Q := refBlk g s0 dur room * (disk p bytes bytes.length room * (opBlk b 1 (.slice A' data.length c') N * HP.emp))) (by ac_rfl))
          clear h5 HA1 o0 o1 o2
          go_wp2_with fail
          refine (refSync_ok s0 dur room _ (by rw [HSZ.out]; omega)).mono ?_
          rintro e w6 ⟨rfl, h6⟩
          have H6 := Aside0.mk (H5.out.from_below h6)
          obtain ⟨g0, g1, g2, f0, f1, f2, gl⟩ := ref_facts (H6.out.as (Q := refBlk g s0 dur room * (disk p bytes bytes.length room * (opBlk b 1 (.slice A' data.length c') N * HP.emp))) (by ac_rfl))
          clear H5 h6
          unfold refD
          go_wp2_with fail
          go_meet
          refine ⟨p, bytes, bytes.length, 0, rfl, rfl, rfl, by omega, by omega, h2, ⟨?_⟩⟩
          have := ref_set (s' := s0) (dur' := (s0.size : Int)) (room' := room) (H6.out.as (Q := refBlk g s0 dur room * (disk p bytes bytes.length room * (opBlk b 1 (.slice A' data.length c') N * HP.emp))) (by ac_rfl))
          rw [← S0.out, ← HSZ.out]
          rw [← HSZ.out] at this
          exact (this.as (Q := disk p bytes s0.size room * (refBlk g s0 s0.size room * HP.emp) * opBlk b 1 (.slice A' data.length c') N) (by ac_rfl)).left
        by_cases q2 : kind = 2
        · subst q2
          have hke : (kept dur N bytes.length).toNat ≤ bytes.length := by unfold kept; split <;> (try split) <;> omega
          obtain ⟨t, ht⟩ : ∃ t, t = strOfNums (bytes.take (kept dur N bytes.length).toNat) := ⟨_, rfl⟩
          have hts : t.size = (bytes.take (kept dur N bytes.length).toNat).length := by rw [ht, strOfNums_size]
          have hte : s0.extract 0 (if N < 0 then dur else if (s0.size : Int) - dur < N then s0.size else dur + N).toNat = t := by
            rw [S0.out, ht, strOfNums_size, strOfNums_extract]; rfl
          have TS := Aside0.mk ht
          have TZ := Aside0.mk hts
          have TE := Aside0.mk hte
          clear ht hts hte
          go_wp2_with fail
          refine (crash_ok p bytes dur room N HA1.out h0 h1).mono ?_
          rintro e w5 ⟨rfl, h5⟩
          rw [← TZ.out] at h5
          obtain ⟨nb, hnb⟩ : ∃ nb, nb = bytes.take (kept dur N bytes.length).toNat := ⟨_, rfl⟩
          rw [← hnb] at h5 TS TZ
          have NL : nb.length ≤ room := by rw [hnb, List.length_take]; omega
          clear hnb
          have H5 := Aside0.mk h5
          obtain ⟨g0, g1, g2, _, _, _, gl⟩ := ref_facts (h5.as (Q := refBlk g s0 dur room * (disk p nb t.size room * (opBlk b 2 (.slice A' data.length c') N * HP.emp))) (by ac_rfl))
          obtain ⟨_, _, p2, pb⟩ := op_facts (h5.as (Q := opBlk b 2 (.slice A' data.length c') N * (disk p nb t.size room * (refBlk g s0 dur room * HP.emp))) (by ac_rfl))
          clear h5 HA1 o0 o1 o2
          go_wp2_with fail
          refine (refCrash_ok s0 dur room N _ (by rw [HSZ.out]; omega) h0 (by rw [HSZ.out]; exact h1) t TE.out).mono ?_
          rintro e w6 ⟨rfl, h6⟩
          have H6 := Aside0.mk (H5.out.from_below h6)
          obtain ⟨g0, g1, g2, f0, f1, f2, gl⟩ := ref_facts (H6.out.as (Q := refBlk g s0 dur room * (disk p nb t.size room * (opBlk b 2 (.slice A' data.length c') N * HP.emp))) (by ac_rfl))
          clear H5 h6
          unfold refD
          go_wp2_with fail
          go_meet
          refine ⟨p, nb, t.size, 0, rfl, rfl, rfl, by omega, by rw [TZ.out]; omega, NL, ⟨?_⟩⟩
          have := ref_set (s' := t) (dur' := (t.size : Int)) (room' := room) (H6.out.as (Q := refBlk g s0 dur room * (disk p nb t.size room * (opBlk b 2 (.slice A' data.length c') N * HP.emp))) (by ac_rfl))
          rw [← TS.out]
          exact (this.as (Q := disk p nb t.size room * (refBlk g t t.size room * HP.emp) * opBlk b 2 (.slice A' data.length c') N) (by ac_rfl)).left
        by_cases q3 : kind = 3
        · subst q3
          by_cases bad : N < 0 ∨ (bytes.length : Int) < N
          · go_wp2_with fail
            refine (truncate_bad p bytes dur room N HA1.out bad).mono ?_
            rintro e w5 ⟨rfl, h5⟩
            have H5 := Aside0.mk (HA1.out.drawn h5)
            obtain ⟨g0, g1, g2, _, _, _, gl⟩ := ref_facts (H5.out.as (Q := refBlk g s0 dur room * (disk p bytes dur room * (opBlk b 3 (.slice A' data.length c') N * HP.emp))) (by ac_rfl))
            obtain ⟨_, _, p2, pb⟩ := op_facts (H5.out.as (Q := opBlk b 3 (.slice A' data.length c') N * (disk p bytes dur room * (refBlk g s0 dur room * HP.emp))) (by ac_rfl))
            clear h5 HA1 o0 o1 o2
            go_wp2_with fail
            refine (refTruncate_bad s0 dur room N _ (by rw [HSZ.out]; omega) (by rw [HSZ.out]; exact bad)).mono ?_
            rintro e w6 ⟨rfl, h6⟩
            have H6 := Aside0.mk (H5.out.from_below h6)
            obtain ⟨g0, g1, g2, f0, f1, f2, gl⟩ := ref_facts (H6.out.as (Q := refBlk g s0 dur room * (disk p bytes dur room * (opBlk b 3 (.slice A' data.length c') N * HP.emp))) (by ac_rfl))
            clear H5 h6
            unfold refD
            go_wp2_with fail
            go_meet
            refine ⟨p, bytes, dur, 1, rfl, rfl, rfl, h0, h1, h2, ⟨?_⟩⟩
            have := ref_set (s' := s0) (dur' := dur) (room' := room) (H6.out.as (Q := refBlk g s0 dur room * (disk p bytes dur room * (opBlk b 3 (.slice A' data.length c') N * HP.emp))) (by ac_rfl))
            rw [← S0.out]
            exact (this.as (Q := disk p bytes dur room * (refBlk g s0 dur room * HP.emp) * opBlk b 3 (.slice A' data.length c') N) (by ac_rfl)).left
          · obtain ⟨t, ht⟩ : ∃ t, t = strOfNums (bytes.take N.toNat) := ⟨_, rfl⟩
            have hts : t.size = (bytes.take N.toNat).length := by rw [ht, strOfNums_size]
            have hte : s0.extract 0 N.toNat = t := by rw [S0.out, ht, strOfNums_extract]
            have TS := Aside0.mk ht
            have TZ := Aside0.mk hts
            have TE := Aside0.mk hte
            clear ht hts hte
            go_wp2_with fail
            refine (truncate_ok p bytes dur room N HA1.out (by omega) (by omega)).mono ?_
            rintro e w5 ⟨rfl, h5⟩
            rw [← TZ.out] at h5
            obtain ⟨nb, hnb⟩ : ∃ nb, nb = bytes.take N.toNat := ⟨_, rfl⟩
            rw [← hnb] at h5 TS TZ
            have NL : nb.length ≤ room := by rw [hnb, List.length_take]; omega
            clear hnb
            have H5 := Aside0.mk h5
            obtain ⟨g0, g1, g2, _, _, _, gl⟩ := ref_facts (h5.as (Q := refBlk g s0 dur room * (disk p nb t.size room * (opBlk b 3 (.slice A' data.length c') N * HP.emp))) (by ac_rfl))
            obtain ⟨_, _, p2, pb⟩ := op_facts (h5.as (Q := opBlk b 3 (.slice A' data.length c') N * (disk p nb t.size room * (refBlk g s0 dur room * HP.emp))) (by ac_rfl))
            clear h5 HA1 o0 o1 o2
            go_wp2_with fail
            refine (refTruncate_ok s0 dur room N _ (by rw [HSZ.out]; omega) (by omega) (by rw [HSZ.out]; omega) t TE.out).mono ?_
            rintro e w6 ⟨rfl, h6⟩
            have H6 := Aside0.mk (H5.out.from_below h6)
            obtain ⟨g0, g1, g2, f0, f1, f2, gl⟩ := ref_facts (H6.out.as (Q := refBlk g s0 dur room * (disk p nb t.size room * (opBlk b 3 (.slice A' data.length c') N * HP.emp))) (by ac_rfl))
            clear H5 h6
            unfold refD
            go_wp2_with fail
            go_meet
            refine ⟨p, nb, t.size, 0, rfl, rfl, rfl, by omega, by rw [TZ.out]; omega, NL, ⟨?_⟩⟩
            have := ref_set (s' := t) (dur' := (t.size : Int)) (room' := room) (H6.out.as (Q := refBlk g s0 dur room * (disk p nb t.size room * (opBlk b 3 (.slice A' data.length c') N * HP.emp))) (by ac_rfl))
            rw [← TS.out]
            exact (this.as (Q := disk p nb t.size room * (refBlk g t t.size room * HP.emp) * opBlk b 3 (.slice A' data.length c') N) (by ac_rfl)).left
        by_cases q4 : kind = 4
        · subst q4
          have kc := conv_const (P := Try.prog) 22 5 Try.underlying22 Try.underlying5
          go_wp2_with fail
          refine (fork_ok p bytes dur room (by omega) HA1.out).mono ?_
          rintro e w5 ⟨q, rfl, h5⟩
          have H5 := Aside0.mk (h5.as (Q := disk p bytes dur room * (disk q bytes dur room * (refBlk g s0 dur room * (opBlk b 4 (.slice A' data.length c') N * HP.emp)))) (by ac_rfl))
          clear h5 HA1 o0 o1 o2
          go_wp2_with fail
          refine (truncate_ok p bytes dur room 0 H5.out (by omega) (by omega)).mono ?_
          rintro e w6 ⟨rfl, h6⟩
          have H6 := Aside0.mk ((h6.alloc (.cells #[.int .u8 120, .int .u8 121, .int .u8 122] 5 (3, 4))).as (Q := disk p (bytes.take (0 : Int).toNat) (bytes.take (0 : Int).toNat).length room * (blk w6.heap.size (.cells #[.int .u8 120, .int .u8 121, .int .u8 122] 5 (3, 4)) * (disk q bytes dur room * (refBlk g s0 dur room * HP.emp) * opBlk b 4 (.slice A' data.length c') N))) (by ac_rfl))
          have hz : (bytes.take (0 : Int).toNat).length = 0 := by simp
          have HZ := Aside0.mk hz
          clear h6 H5 hz
          go_wp2_with fail
          by_cases fit : (3 : Int) ≤ room
          · refine (append1g_ok p _ _ room [120, 121, 122] _ 3 3 _ (by simp) H6.out hr hr2 rfl (Nat.le_refl _) (fun w' h' => C_blk (enc := Value.int .u8) (xs := [120, 121, 122]) (by decide) h'.blk_at.1) (by rw [HZ.out]; omega)).mono ?_
            rintro e w7 ⟨rfl, h7⟩
            have H7 := Aside0.mk h7.right.right.left
            clear h7 H6
            go_wp2_with fail
            go_meet
            exact ⟨q, bytes, dur, 0, rfl, rfl, rfl, h0, h1, h2, ⟨by rw [← S0.out]; exact H7.out⟩⟩
          · refine (append1g_full p _ _ room [120, 121, 122] _ 3 3 _ (by simp) H6.out hr hr2 rfl (Nat.le_refl _) (fun w' h' => C_blk (enc := Value.int .u8) (xs := [120, 121, 122]) (by decide) h'.blk_at.1) (by omega) (by rw [HZ.out]; omega)).mono ?_
            rintro e w7 ⟨rfl, h7⟩
            have H7 := Aside0.mk h7.right.right.left
            clear h7 H6
            go_wp2_with fail
            go_meet
            exact ⟨q, bytes, dur, 0, rfl, rfl, rfl, h0, h1, h2, ⟨by rw [← S0.out]; exact H7.out⟩⟩
        · go_wp2_with fail
          go_meet
          exact ⟨p, bytes, dur, 0, rfl, rfl, rfl, h0, h1, h2, ⟨by rw [← S0.out]; exact (HA1.out.as (Q := disk p bytes dur room * (refBlk g s0 dur room * HP.emp) * opBlk b kind (.slice A' data.length c') N) (by ac_rfl)).left⟩⟩
      case rest =>
        obtain ⟨p', bytes', dur', c, rfl, rfl, rfl, h0', h1', h2', HR⟩ := hcut
        clear HA1 h0 h1 h2
        obtain ⟨s1, hs1⟩ : ∃ s1, s1 = strOfNums bytes' := ⟨_, rfl⟩
        have hsz1 : s1.size = bytes'.length := by rw [hs1, strOfNums_size]
        rw [← hs1] at HR
        have S1 := Aside0.mk hs1
        have HR1 := Aside0.mk HR.out.drew
        obtain ⟨g0, g1, g2, _, _, _, _⟩ := ref_facts (HR1.out.as (Q := refBlk g s1 dur' room * (disk p' bytes' dur' room * HP.emp)) (by ac_rfl))
        have SZ1 := Aside0.mk hsz1
        have ml : s1.size ≤ 1048576 := by omega
        clear hs1 hsz1 HR
        have e14 : wrap64 (room - (s1.size : Int)) = room - s1.size := by unfold wrap64; omega
        go_wp2_with fail
        refine start_ (n := 43) (S := fun w' => w'.cell? ⟨g, 0, none⟩ = some (.string s1) ∧ w'.cell? ⟨g, 1, none⟩ = some (.int .i64 dur') ∧ w'.cell? ⟨g, 2, none⟩ = some (.int .i64 room)) (ds := []) #[false, false, false, false, false, false, false, false, false, false, false, false, false, false, false, false, false, false, false, false, false, false, false, false, false, false, false, false, false, false, false, false, false, false, false, false, false, false, false, false, false, false, false] (by kernel_rfl) rfl rfl ⟨g0, g1, g2⟩ (fun hHeld => ?_)
        refine pure_ (i := 0) (N := some 108) (v := ?_) (a' := ?_) #[true, false, false, false, false, false, false, false, false, false, false, false, false, false, false, false, false, false, false, false, false, false, false, false, false, false, false, false, false, false, false, false, false, false, false, false, false, false, false, false, false, false, false] rfl rfl (by kernel_rfl) (fun _ _ _ h => h) (Or.inl ⟨by rfl, ?_⟩) ?_ ?_
        rotate_left
        · intro w'
          go_simp
          with_reducible rfl
        rotate_left
        · simp only [Act.put, List.setIfInBounds_toArray, List.set_cons_zero, List.set_cons_succ, i64_w, i32_w]
          rfl
        refine pure_ (i := 1) (N := some 109) (v := ?_) (a' := ?_) #[true, true, false, false, false, false, false, false, false, false, false, false, false, false, false, false, false, false, false, false, false, false, false, false, false, false, false, false, false, false, false, false, false, false, false, false, false, false, false, false, false, false, false] rfl rfl (by kernel_rfl) (fun _ _ _ h => h) (Or.inl ⟨by rfl, ?_⟩) ?_ ?_
        rotate_left
        · intro w'
          go_simp
          with_reducible rfl
        rotate_left
        · simp only [Act.put, List.setIfInBounds_toArray, List.set_cons_zero, List.set_cons_succ, i64_w, i32_w]
          rfl
        refine pure_ (i := 2) (N := some 110) (v := ?_) (a' := ?_) #[true, true, true, false, false, false, false, false, false, false, false, false, false, false, false, false, false, false, false, false, false, false, false, false, false, false, false, false, false, false, false, false, false, false, false, false, false, false, false, false, false, false, false] rfl rfl (by kernel_rfl) (fun _ _ _ h => h) (Or.inl ⟨by rfl, ?_⟩) ?_ ?_
        rotate_left
        · intro w'
          go_simp
          with_reducible rfl
        rotate_left
        · simp only [Act.put, List.setIfInBounds_toArray, List.set_cons_zero, List.set_cons_succ, i64_w, i32_w]
          rfl
        refine pure_ (i := 3) (N := some 111) (v := ?_) (a' := ?_) #[true, true, true, true, false, false, false, false, false, false, false, false, false, false, false, false, false, false, false, false, false, false, false, false, false, false, false, false, false, false, false, false, false, false, false, false, false, false, false, false, false, false, false] rfl rfl (by kernel_rfl) (fun _ _ _ h => h) (Or.inl ⟨by rfl, ?_⟩) ?_ ?_
        rotate_left
        · intro w'
          go_simp
          with_reducible rfl
        rotate_left
        · simp only [Act.put, List.setIfInBounds_toArray, List.set_cons_zero, List.set_cons_succ, i64_w, i32_w]
          rfl
        refine pure_ (i := 4) (N := some 112) (v := ?_) (a' := ?_) #[true, true, true, true, true, false, false, false, false, false, false, false, false, false, false, false, false, false, false, false, false, false, false, false, false, false, false, false, false, false, false, false, false, false, false, false, false, false, false, false, false, false, false] rfl rfl (by kernel_rfl) (fun _ _ _ h => h) (Or.inl ⟨by rfl, ?_⟩) ?_ ?_
        rotate_left
        · intro w'
          go_simp
          with_reducible rfl
        rotate_left
        · simp only [Act.put, List.setIfInBounds_toArray, List.set_cons_zero, List.set_cons_succ, i64_w, i32_w]
          rfl
        refine pure_ (i := 5) (N := some 113) (v := ?_) (a' := ?_) #[true, true, true, true, true, true, false, false, false, false, false, false, false, false, false, false, false, false, false, false, false, false, false, false, false, false, false, false, false, false, false, false, false, false, false, false, false, false, false, false, false, false, false] rfl rfl (by kernel_rfl) (fun _ _ _ h => h) (Or.inl ⟨by rfl, ?_⟩) ?_ ?_
        rotate_left
        · intro w'
          go_simp
          with_reducible rfl
        rotate_left
        · simp only [Act.put, List.setIfInBounds_toArray, List.set_cons_zero, List.set_cons_succ, i64_w, i32_w]
          rfl
        refine pure_ (i := 6) (N := some 114) (v := ?_) (a' := ?_) #[true, true, true, true, true, true, true, false, false, false, false, false, false, false, false, false, false, false, false, false, false, false, false, false, false, false, false, false, false, false, false, false, false, false, false, false, false, false, false, false, false, false, false] rfl rfl (by kernel_rfl) (fun _ _ _ h => h) (Or.inl ⟨by rfl, ?_⟩) ?_ ?_
        rotate_left
        · intro w'
          go_simp
          with_reducible rfl
        rotate_left
        · simp only [Act.put, List.setIfInBounds_toArray, List.set_cons_zero, List.set_cons_succ, i64_w, i32_w]
          rfl
        refine pure_ (i := 9) (N := some 117) (v := ?_) (a' := ?_) #[true, true, true, true, true, true, true, false, false, true, false, false, false, false, false, false, false, false, false, false, false, false, false, false, false, false, false, false, false, false, false, false, false, false, false, false, false, false, false, false, false, false, false] rfl rfl (by kernel_rfl) (fun _ _ _ h => h) (Or.inl ⟨by rfl, ?_⟩) ?_ ?_
        rotate_left
        · intro w'
          go_simp
          with_reducible rfl
        rotate_left
        · simp only [Act.put, List.setIfInBounds_toArray, List.set_cons_zero, List.set_cons_succ, i64_w, i32_w]
          rfl
        refine take_ (i := 10) (N := some 118) (v := ?_) (a' := ?_) #[true, true, true, true, true, true, true, false, false, true, true, false, false, false, false, false, false, false, false, false, false, false, false, false, false, false, false, false, false, false, false, false, false, false, false, false, false, false, false, false, false, false, false] rfl rfl (by kernel_rfl) (fun _ _ _ h => h) (Or.inl ⟨by rfl, ?_⟩) hHeld ?_ ?_
        rotate_left
        · rintro w' ⟨s0, s1, s2⟩
          go_simp
          with_reducible rfl
        rotate_left
        · simp only [Act.put, List.setIfInBounds_toArray, List.set_cons_zero, List.set_cons_succ, i64_w, i32_w]
          rfl
        refine one_ (i := 7) (N := some 115) #[true, true, true, true, true, true, true, true, false, true, true, false, false, false, false, false, false, false, false, false, false, false, false, false, false, false, false, false, false, false, false, false, false, false, false, false, false, false, false, false, false, false, false] rfl rfl (by kernel_rfl) (by decide) (fun K hK => ?_)
        refine goes_ Try.func16 (by kernel_rfl) rfl #[.pointer (some ⟨p', 0, none⟩)] (by rfl) rfl rfl (by simp only [List.map_toArray, List.map_cons, List.map_nil]; rfl) ?_
        with_reducible refine (bytes_n p' bytes' dur' room bytes'.length rfl (by omega) HR1.out).mono ?_
        rintro e x8 ⟨A1, c1, rfl, hc1, h8⟩
        refine ⟨_, rfl, ?_⟩
        have hs8 := h8.row_string Try.underlying22 Try.underlying5 Try.underlying9
        rw [← S1.out] at hs8
        have H8 := Aside0.mk h8.right
        obtain ⟨g0, g1, g2, _, _, _, _⟩ := ref_facts (H8.out.as (Q := refBlk g s1 dur' room * (disk p' bytes' dur' room * HP.emp)) (by ac_rfl))
        clear h8
        refine hK.out _ _ ⟨g0, g1, g2⟩ (fun hHeld => ?_)
        clear hK K
        refine norm_ (a' := ?_) ?_ ?_
        rotate_left
        · show Act.put _ (some 115) _ = _
          simp only [Act.put, List.setIfInBounds_toArray, List.set_cons_zero, List.set_cons_succ, i64_w, i32_w]
          rfl
        refine one_ (i := 8) (N := some 116) #[true, true, true, true, true, true, true, true, true, true, true, false, false, false, false, false, false, false, false, false, false, false, false, false, false, false, false, false, false, false, false, false, false, false, false, false, false, false, false, false, false, false, false] rfl rfl (by kernel_rfl) (by decide) (fun K hK => ?_)
        refine value_ (w1 := ?_) (v := ?_) (by rfl) rfl ?_ ?_
        rotate_left 2
        · go_simp
          constructor
          · rfl
          · rfl
        refine hK.out _ _ ⟨g0, g1, g2⟩ (fun hHeld => ?_)
        clear hK K
        refine norm_ (a' := ?_) ?_ ?_
        rotate_left
        · show Act.put _ (some 116) _ = _
          simp only [Act.put, List.setIfInBounds_toArray, List.set_cons_zero, List.set_cons_succ, i64_w, i32_w]
          rfl
        refine pure_ (i := 11) (N := some 119) (v := ?_) (a' := ?_) #[true, true, true, true, true, true, true, true, true, true, true, true, false, false, false, false, false, false, false, false, false, false, false, false, false, false, false, false, false, false, false, false, false, false, false, false, false, false, false, false, false, false, false] rfl rfl (by kernel_rfl) (fun _ _ _ h => h) (Or.inl ⟨by rfl, ?_⟩) ?_ ?_
        rotate_left
        · intro w'
          go_simp
          with_reducible rfl
        rotate_left
        · simp only [Act.put, List.setIfInBounds_toArray, List.set_cons_zero, List.set_cons_succ, i64_w, i32_w]
          rfl
        refine pure_ (i := 12) (N := some 120) (v := ?_) (a' := ?_) #[true, true, true, true, true, true, true, true, true, true, true, true, true, false, false, false, false, false, false, false, false, false, false, false, false, false, false, false, false, false, false, false, false, false, false, false, false, false, false, false, false, false, false] rfl rfl (by kernel_rfl) (fun _ _ _ h => h) (Or.inl ⟨by rfl, ?_⟩) ?_ ?_
        rotate_left
        · intro w'
          go_simp
          with_reducible rfl
        rotate_left
        · simp only [Act.put, List.setIfInBounds_toArray, List.set_cons_zero, List.set_cons_succ, i64_w, i32_w]
          rfl
        refine pure_ (i := 13) (N := some 121) (v := ?_) (a' := ?_) #[true, true, true, true, true, true, true, true, true, true, true, true, true, true, false, false, false, false, false, false, false, false, false, false, false, false, false, false, false, false, false, false, false, false, false, false, false, false, false, false, false, false, false] rfl rfl (by kernel_rfl) (fun _ _ _ h => h) (Or.inl ⟨by rfl, ?_⟩) ?_ ?_
        rotate_left
        · intro w'
          go_simp
          with_reducible rfl
        rotate_left
        · simp only [Act.put, List.setIfInBounds_toArray, List.set_cons_zero, List.set_cons_succ, i64_w, i32_w]
          rfl
        refine pure_ (i := 14) (N := some 122) (v := ?_) (a' := ?_) #[true, true, true, true, true, true, true, true, true, true, true, true, true, true, true, false, false, false, false, false, false, false, false, false, false, false, false, false, false, false, false, false, false, false, false, false, false, false, false, false, false, false, false] rfl rfl (by kernel_rfl) (fun _ _ _ h => h) (Or.inl ⟨by rfl, ?_⟩) ?_ ?_
        rotate_left
        · intro w'
          go_simp
          with_reducible rfl
        rotate_left
        · simp only [Act.put, List.setIfInBounds_toArray, List.set_cons_zero, List.set_cons_succ, i64_w, i32_w]
          rfl
        refine pure_ (i := 15) (N := some 123) (v := ?_) (a' := ?_) #[true, true, true, true, true, true, true, true, true, true, true, true, true, true, true, true, false, false, false, false, false, false, false, false, false, false, false, false, false, false, false, false, false, false, false, false, false, false, false, false, false, false, false] rfl rfl (by kernel_rfl) (fun _ _ _ h => h) (Or.inl ⟨by rfl, ?_⟩) ?_ ?_
        rotate_left
        · intro w'
          go_simp
          with_reducible rfl
        rotate_left
        · simp only [Act.put, List.setIfInBounds_toArray, List.set_cons_zero, List.set_cons_succ, i64_w, i32_w]
          rfl
        refine pure_ (i := 16) (N := some 124) (v := ?_) (a' := ?_) #[true, true, true, true, true, true, true, true, true, true, true, true, true, true, true, true, true, false, false, false, false, false, false, false, false, false, false, false, false, false, false, false, false, false, false, false, false, false, false, false, false, false, false] rfl rfl (by kernel_rfl) (fun _ _ _ h => h) (Or.inl ⟨by rfl, ?_⟩) ?_ ?_
        rotate_left
        · intro w'
          go_simp
          with_reducible rfl
        rotate_left
        · simp only [Act.put, List.setIfInBounds_toArray, List.set_cons_zero, List.set_cons_succ, i64_w, i32_w]
          rfl
        refine pure_ (i := 18) (N := some 126) (v := ?_) (a' := ?_) #[true, true, true, true, true, true, true, true, true, true, true, true, true, true, true, true, true, false, true, false, false, false, false, false, false, false, false, false, false, false, false, false, false, false, false, false, false, false, false, false, false, false, false] rfl rfl (by kernel_rfl) (fun _ _ _ h => h) (Or.inl ⟨by rfl, ?_⟩) ?_ ?_
        rotate_left
        · intro w'
          go_simp
          with_reducible rfl
        rotate_left
        · simp only [Act.put, List.setIfInBounds_toArray, List.set_cons_zero, List.set_cons_succ, i64_w, i32_w]
          rfl
        refine take_ (i := 19) (N := some 127) (v := ?_) (a' := ?_) #[true, true, true, true, true, true, true, true, true, true, true, true, true, true, true, true, true, false, true, true, false, false, false, false, false, false, false, false, false, false, false, false, false, false, false, false, false, false, false, false, false, false, false] rfl rfl (by kernel_rfl) (fun _ _ _ h => h) (Or.inl ⟨by rfl, ?_⟩) hHeld ?_ ?_
        rotate_left
        · rintro w' ⟨s0, s1, s2⟩
          go_simp
          with_reducible rfl
        rotate_left
        · simp only [Act.put, List.setIfInBounds_toArray, List.set_cons_zero, List.set_cons_succ, i64_w, i32_w]
          rfl
        refine pure_ (i := 20) (N := some 128) (v := ?_) (a' := ?_) #[true, true, true, true, true, true, true, true, true, true, true, true, true, true, true, true, true, false, true, true, true, false, false, false, false, false, false, false, false, false, false, false, false, false, false, false, false, false, false, false, false, false, false] rfl rfl (by kernel_rfl) (fun _ _ _ h => h) (Or.inl ⟨by rfl, ?_⟩) ?_ ?_
        rotate_left
        · intro w'
          go_simp
          with_reducible rfl
        rotate_left
        · simp only [Act.put, List.setIfInBounds_toArray, List.set_cons_zero, List.set_cons_succ, i64_w, i32_w]
          rfl
        refine one_ (i := 17) (N := some 125) #[true, true, true, true, true, true, true, true, true, true, true, true, true, true, true, true, true, true, true, true, true, false, false, false, false, false, false, false, false, false, false, false, false, false, false, false, false, false, false, false, false, false, false] rfl rfl (by kernel_rfl) (by decide) (fun K hK => ?_)
        refine goes_ Try.func19 (by kernel_rfl) rfl #[.pointer (some ⟨p', 0, none⟩)] (by rfl) rfl rfl (by simp only [List.map_toArray, List.map_cons, List.map_nil]; rfl) ?_
        with_reducible refine (size_k p' bytes' dur' room (s1.size : Int) (by rw [SZ1.out]) H8.out).mono ?_
        rintro e x9 ⟨rfl, hd⟩
        refine ⟨_, rfl, ?_⟩
        have H9 := Aside0.mk (H8.out.drawn hd)
        obtain ⟨g0, g1, g2, _, _, _, _⟩ := ref_facts (H9.out.as (Q := refBlk g s1 dur' room * (disk p' bytes' dur' room * HP.emp)) (by ac_rfl))
        clear hd
        refine hK.out _ _ ⟨g0, g1, g2⟩ (fun hHeld => ?_)
        clear hK K
        refine norm_ (a' := ?_) ?_ ?_
        rotate_left
        · show Act.put _ (some 125) _ = _
          simp only [Act.put, List.setIfInBounds_toArray, List.set_cons_zero, List.set_cons_succ, i64_w, i32_w]
          rfl
        refine pure_ (i := 21) (N := some 129) (v := ?_) (a' := ?_) #[true, true, true, true, true, true, true, true, true, true, true, true, true, true, true, true, true, true, true, true, true, true, false, false, false, false, false, false, false, false, false, false, false, false, false, false, false, false, false, false, false, false, false] rfl rfl (by kernel_rfl) (fun _ _ _ h => h) (Or.inl ⟨by rfl, ?_⟩) ?_ ?_
        rotate_left
        · intro w'
          go_simp
          with_reducible rfl
        rotate_left
        · simp only [Act.put, List.setIfInBounds_toArray, List.set_cons_zero, List.set_cons_succ, i64_w, i32_w]
          rfl
        refine pure_ (i := 22) (N := some 130) (v := ?_) (a' := ?_) #[true, true, true, true, true, true, true, true, true, true, true, true, true, true, true, true, true, true, true, true, true, true, true, false, false, false, false, false, false, false, false, false, false, false, false, false, false, false, false, false, false, false, false] rfl rfl (by kernel_rfl) (fun _ _ _ h => h) (Or.inl ⟨by rfl, ?_⟩) ?_ ?_
        rotate_left
        · intro w'
          go_simp
          with_reducible rfl
        rotate_left
        · simp only [Act.put, List.setIfInBounds_toArray, List.set_cons_zero, List.set_cons_succ, i64_w, i32_w]
          rfl
        refine pure_ (i := 23) (N := some 131) (v := ?_) (a' := ?_) #[true, true, true, true, true, true, true, true, true, true, true, true, true, true, true, true, true, true, true, true, true, true, true, true, false, false, false, false, false, false, false, false, false, false, false, false, false, false, false, false, false, false, false] rfl rfl (by kernel_rfl) (fun _ _ _ h => h) (Or.inl ⟨by rfl, ?_⟩) ?_ ?_
        rotate_left
        · intro w'
          go_simp
          with_reducible rfl
        rotate_left
        · simp only [Act.put, List.setIfInBounds_toArray, List.set_cons_zero, List.set_cons_succ, i64_w, i32_w]
          rfl
        refine pure_ (i := 24) (N := some 132) (v := ?_) (a' := ?_) #[true, true, true, true, true, true, true, true, true, true, true, true, true, true, true, true, true, true, true, true, true, true, true, true, true, false, false, false, false, false, false, false, false, false, false, false, false, false, false, false, false, false, false] rfl rfl (by kernel_rfl) (fun _ _ _ h => h) (Or.inl ⟨by rfl, ?_⟩) ?_ ?_
        rotate_left
        · intro w'
          go_simp
          with_reducible rfl
        rotate_left
        · simp only [Act.put, List.setIfInBounds_toArray, List.set_cons_zero, List.set_cons_succ, i64_w, i32_w]
          rfl
        refine pure_ (i := 25) (N := some 133) (v := ?_) (a' := ?_) #[true, true, true, true, true, true, true, true, true, true, true, true, true, true, true, true, true, true, true, true, true, true, true, true, true, true, false, false, false, false, false, false, false, false, false, false, false, false, false, false, false, false, false] rfl rfl (by kernel_rfl) (fun _ _ _ h => h) (Or.inl ⟨by rfl, ?_⟩) ?_ ?_
        rotate_left
        · intro w'
          go_simp
          with_reducible rfl
        rotate_left
        · simp only [Act.put, List.setIfInBounds_toArray, List.set_cons_zero, List.set_cons_succ, i64_w, i32_w]
          rfl
        refine pure_ (i := 26) (N := some 134) (v := ?_) (a' := ?_) #[true, true, true, true, true, true, true, true, true, true, true, true, true, true, true, true, true, true, true, true, true, true, true, true, true, true, true, false, false, false, false, false, false, false, false, false, false, false, false, false, false, false, false] rfl rfl (by kernel_rfl) (fun _ _ _ h => h) (Or.inl ⟨by rfl, ?_⟩) ?_ ?_
        rotate_left
        · intro w'
          go_simp
          with_reducible rfl
        rotate_left
        · simp only [Act.put, List.setIfInBounds_toArray, List.set_cons_zero, List.set_cons_succ, i64_w, i32_w]
          rfl
        refine pure_ (i := 28) (N := some 136) (v := ?_) (a' := ?_) #[true, true, true, true, true, true, true, true, true, true, true, true, true, true, true, true, true, true, true, true, true, true, true, true, true, true, true, false, true, false, false, false, false, false, false, false, false, false, false, false, false, false, false] rfl rfl (by kernel_rfl) (fun _ _ _ h => h) (Or.inl ⟨by rfl, ?_⟩) ?_ ?_
        rotate_left
        · intro w'
          go_simp
          with_reducible rfl
        rotate_left
        · simp only [Act.put, List.setIfInBounds_toArray, List.set_cons_zero, List.set_cons_succ, i64_w, i32_w]
          rfl
        refine take_ (i := 29) (N := some 137) (v := ?_) (a' := ?_) #[true, true, true, true, true, true, true, true, true, true, true, true, true, true, true, true, true, true, true, true, true, true, true, true, true, true, true, false, true, true, false, false, false, false, false, false, false, false, false, false, false, false, false] rfl rfl (by kernel_rfl) (fun _ _ _ h => h) (Or.inl ⟨by rfl, ?_⟩) hHeld ?_ ?_
        rotate_left
        · rintro w' ⟨s0, s1, s2⟩
          go_simp
          with_reducible rfl
        rotate_left
        · simp only [Act.put, List.setIfInBounds_toArray, List.set_cons_zero, List.set_cons_succ, i64_w, i32_w]
          rfl
        refine one_ (i := 27) (N := some 135) #[true, true, true, true, true, true, true, true, true, true, true, true, true, true, true, true, true, true, true, true, true, true, true, true, true, true, true, true, true, true, false, false, false, false, false, false, false, false, false, false, false, false, false] rfl rfl (by kernel_rfl) (by decide) (fun K hK => ?_)
        refine goes_ Try.func17 (by kernel_rfl) rfl #[.pointer (some ⟨p', 0, none⟩)] (by rfl) rfl rfl (by simp only [List.map_toArray, List.map_cons, List.map_nil]; rfl) ?_
        with_reducible refine (durable_ok p' bytes' dur' room H9.out).mono ?_
        rintro e x10 ⟨rfl, hd⟩
        refine ⟨_, rfl, ?_⟩
        have H10 := Aside0.mk (H9.out.drawn hd)
        obtain ⟨g0, g1, g2, _, _, _, _⟩ := ref_facts (H10.out.as (Q := refBlk g s1 dur' room * (disk p' bytes' dur' room * HP.emp)) (by ac_rfl))
        clear hd
        refine hK.out _ _ ⟨g0, g1, g2⟩ (fun hHeld => ?_)
        clear hK K
        refine norm_ (a' := ?_) ?_ ?_
        rotate_left
        · show Act.put _ (some 135) _ = _
          simp only [Act.put, List.setIfInBounds_toArray, List.set_cons_zero, List.set_cons_succ, i64_w, i32_w]
          rfl
        refine pure_ (i := 30) (N := some 138) (v := ?_) (a' := ?_) #[true, true, true, true, true, true, true, true, true, true, true, true, true, true, true, true, true, true, true, true, true, true, true, true, true, true, true, true, true, true, true, false, false, false, false, false, false, false, false, false, false, false, false] rfl rfl (by kernel_rfl) (fun _ _ _ h => h) (Or.inl ⟨by rfl, ?_⟩) ?_ ?_
        rotate_left
        · intro w'
          go_simp
          with_reducible rfl
        rotate_left
        · simp only [Act.put, List.setIfInBounds_toArray, List.set_cons_zero, List.set_cons_succ, i64_w, i32_w]
          rfl
        refine pure_ (i := 31) (N := some 139) (v := ?_) (a' := ?_) #[true, true, true, true, true, true, true, true, true, true, true, true, true, true, true, true, true, true, true, true, true, true, true, true, true, true, true, true, true, true, true, true, false, false, false, false, false, false, false, false, false, false, false] rfl rfl (by kernel_rfl) (fun _ _ _ h => h) (Or.inl ⟨by rfl, ?_⟩) ?_ ?_
        rotate_left
        · intro w'
          go_simp
          with_reducible rfl
        rotate_left
        · simp only [Act.put, List.setIfInBounds_toArray, List.set_cons_zero, List.set_cons_succ, i64_w, i32_w]
          rfl
        refine pure_ (i := 32) (N := some 140) (v := ?_) (a' := ?_) #[true, true, true, true, true, true, true, true, true, true, true, true, true, true, true, true, true, true, true, true, true, true, true, true, true, true, true, true, true, true, true, true, true, false, false, false, false, false, false, false, false, false, false] rfl rfl (by kernel_rfl) (fun _ _ _ h => h) (Or.inl ⟨by rfl, ?_⟩) ?_ ?_
        rotate_left
        · intro w'
          go_simp
          with_reducible rfl
        rotate_left
        · simp only [Act.put, List.setIfInBounds_toArray, List.set_cons_zero, List.set_cons_succ, i64_w, i32_w]
          rfl
        refine pure_ (i := 33) (N := some 141) (v := ?_) (a' := ?_) #[true, true, true, true, true, true, true, true, true, true, true, true, true, true, true, true, true, true, true, true, true, true, true, true, true, true, true, true, true, true, true, true, true, true, false, false, false, false, false, false, false, false, false] rfl rfl (by kernel_rfl) (fun _ _ _ h => h) (Or.inl ⟨by rfl, ?_⟩) ?_ ?_
        rotate_left
        · intro w'
          go_simp
          with_reducible rfl
        rotate_left
        · simp only [Act.put, List.setIfInBounds_toArray, List.set_cons_zero, List.set_cons_succ, i64_w, i32_w]
          rfl
        refine pure_ (i := 35) (N := some 143) (v := ?_) (a' := ?_) #[true, true, true, true, true, true, true, true, true, true, true, true, true, true, true, true, true, true, true, true, true, true, true, true, true, true, true, true, true, true, true, true, true, true, false, true, false, false, false, false, false, false, false] rfl rfl (by kernel_rfl) (fun _ _ _ h => h) (Or.inl ⟨by rfl, ?_⟩) ?_ ?_
        rotate_left
        · intro w'
          go_simp
          with_reducible rfl
        rotate_left
        · simp only [Act.put, List.setIfInBounds_toArray, List.set_cons_zero, List.set_cons_succ, i64_w, i32_w]
          rfl
        refine pure_ (i := 37) (N := some 145) (v := ?_) (a' := ?_) #[true, true, true, true, true, true, true, true, true, true, true, true, true, true, true, true, true, true, true, true, true, true, true, true, true, true, true, true, true, true, true, true, true, true, false, true, false, true, false, false, false, false, false] rfl rfl (by kernel_rfl) (fun _ _ _ h => h) (Or.inl ⟨by rfl, ?_⟩) ?_ ?_
        rotate_left
        · intro w'
          go_simp
          with_reducible rfl
        rotate_left
        · simp only [Act.put, List.setIfInBounds_toArray, List.set_cons_zero, List.set_cons_succ, i64_w, i32_w]
          rfl
        refine take_ (i := 36) (N := some 144) (v := ?_) (a' := ?_) #[true, true, true, true, true, true, true, true, true, true, true, true, true, true, true, true, true, true, true, true, true, true, true, true, true, true, true, true, true, true, true, true, true, true, false, true, true, true, false, false, false, false, false] rfl rfl (by kernel_rfl) (fun _ _ _ h => h) (Or.inl ⟨by rfl, ?_⟩) hHeld ?_ ?_
        rotate_left
        · rintro w' ⟨s0, s1, s2⟩
          go_simp
          with_reducible rfl
        rotate_left
        · simp only [Act.put, List.setIfInBounds_toArray, List.set_cons_zero, List.set_cons_succ, i64_w, i32_w]
          rfl
        refine take_ (i := 38) (N := some 146) (v := ?_) (a' := ?_) #[true, true, true, true, true, true, true, true, true, true, true, true, true, true, true, true, true, true, true, true, true, true, true, true, true, true, true, true, true, true, true, true, true, true, false, true, true, true, true, false, false, false, false] rfl rfl (by kernel_rfl) (fun _ _ _ h => h) (Or.inl ⟨by rfl, ?_⟩) hHeld ?_ ?_
        rotate_left
        · rintro w' ⟨s0, s1, s2⟩
          go_simp
          with_reducible rfl
        rotate_left
        · simp only [Act.put, List.setIfInBounds_toArray, List.set_cons_zero, List.set_cons_succ, i64_w, i32_w]
          rfl
        refine pure_ (i := 39) (N := some 147) (v := ?_) (a' := ?_) #[true, true, true, true, true, true, true, true, true, true, true, true, true, true, true, true, true, true, true, true, true, true, true, true, true, true, true, true, true, true, true, true, true, true, false, true, true, true, true, true, false, false, false] rfl rfl (by kernel_rfl) (fun _ _ _ h => h) (Or.inl ⟨by rfl, ?_⟩) ?_ ?_
        rotate_left
        · intro w'
          go_simp
          with_reducible rfl
        rotate_left
        · simp only [Act.put, List.setIfInBounds_toArray, List.set_cons_zero, List.set_cons_succ, i64_w, i32_w]
          rfl
        refine pure_ (i := 40) (N := some 148) (v := ?_) (a' := ?_) #[true, true, true, true, true, true, true, true, true, true, true, true, true, true, true, true, true, true, true, true, true, true, true, true, true, true, true, true, true, true, true, true, true, true, false, true, true, true, true, true, true, false, false] rfl rfl (by kernel_rfl) (fun _ _ _ h => h) (Or.inl ⟨by rfl, ?_⟩) ?_ ?_
        rotate_left
        · intro w'
          go_simp
          with_reducible rfl
        rotate_left
        · simp only [Act.put, List.setIfInBounds_toArray, List.set_cons_zero, List.set_cons_succ, i64_w, i32_w]
          rfl
        refine one_ (i := 34) (N := some 142) #[true, true, true, true, true, true, true, true, true, true, true, true, true, true, true, true, true, true, true, true, true, true, true, true, true, true, true, true, true, true, true, true, true, true, true, true, true, true, true, true, true, false, false] rfl rfl (by kernel_rfl) (by decide) (fun K hK => ?_)
        refine goes_ Try.func20 (by kernel_rfl) rfl #[.pointer (some ⟨p', 0, none⟩)] (by rfl) rfl rfl (by simp only [List.map_toArray, List.map_cons, List.map_nil]; rfl) ?_
        with_reducible refine (left_k p' bytes' dur' room (room - s1.size) (by rw [SZ1.out]) hr hr2 H10.out).mono ?_
        rintro e x11 ⟨rfl, hd⟩
        refine ⟨_, rfl, ?_⟩
        have H11 := Aside0.mk (H10.out.drawn hd)
        obtain ⟨g0, g1, g2, _, _, _, _⟩ := ref_facts (H11.out.as (Q := refBlk g s1 dur' room * (disk p' bytes' dur' room * HP.emp)) (by ac_rfl))
        clear hd
        refine hK.out _ _ ⟨g0, g1, g2⟩ (fun hHeld => ?_)
        clear hK K
        refine norm_ (a' := ?_) ?_ ?_
        rotate_left
        · show Act.put _ (some 142) _ = _
          simp only [Act.put, List.setIfInBounds_toArray, List.set_cons_zero, List.set_cons_succ, i64_w, i32_w]
          rfl
        refine pure_ (i := 41) (N := some 149) (v := ?_) (a' := ?_) #[true, true, true, true, true, true, true, true, true, true, true, true, true, true, true, true, true, true, true, true, true, true, true, true, true, true, true, true, true, true, true, true, true, true, true, true, true, true, true, true, true, true, false] rfl rfl (by kernel_rfl) (fun _ _ _ h => h) (Or.inl ⟨by rfl, ?_⟩) ?_ ?_
        rotate_left
        · intro w'
          go_simp
          with_reducible rfl
        rotate_left
        · simp only [Act.put, List.setIfInBounds_toArray, List.set_cons_zero, List.set_cons_succ, i64_w, i32_w]
          rfl
        refine pure_ (i := 42) (N := some 150) (v := ?_) (a' := ?_) #[true, true, true, true, true, true, true, true, true, true, true, true, true, true, true, true, true, true, true, true, true, true, true, true, true, true, true, true, true, true, true, true, true, true, true, true, true, true, true, true, true, true, true] rfl rfl (by kernel_rfl) (fun _ _ _ h => h) (Or.inl ⟨by rfl, ?_⟩) ?_ ?_
        rotate_left
        · intro w'
          go_simp
          with_reducible rfl
        rotate_left
        · simp only [Act.put, List.setIfInBounds_toArray, List.set_cons_zero, List.set_cons_succ, i64_w, i32_w]
          rfl
        refine done_ (by kernel_rfl) ?_
        go_wp2_with fail
        go_roundw
        case rel => exact ⟨k + 1, p', bytes', dur', by omega, by go_num, rfl, h0', h1', h2', ⟨by rw [← S1.out]; exact H11.out⟩⟩
        case measure => simp [intOf]; omega
    · go_wp2_with fail
      go_ret
      exact ⟨rfl, HW.out.below⟩

set_option maxHeartbeats 3200000 in
set_option maxRecDepth 100000 in
theorem diskPlays_bad (room : Int) (A : Option Addr) (n ca : Nat) (w : World) (hr : room < 0 ∨ 1048576 < room) :
    Calls Try.prog 8 #[.int .i64 room, .slice A n ca] w fun e w' => e = .returned (.bool true) ∧ Below w.heap.size w w' := by
  go_enter Try.func8, Try.ntmps8
  go_wp2_with fail
  refine (awake_ok (Hw.start w)).mono ?_
  rintro e w1 ⟨rfl, h1⟩
  have H1 := Aside0.mk h1
  clear h1
  go_wp2_with fail
  refine (new_bad room hr).mono ?_
  rintro e w2 ⟨rfl, rfl⟩
  go_wp2_with fail
  refine (refWrong_bad room _ hr).mono ?_
  rintro e w3 ⟨rfl, hd⟩
  have H3 := Aside0.mk (H1.out.drawn hd)
  clear hd H1
  go_wp2_with fail
  go_ret
  exact ⟨rfl, H3.out.below⟩
theorem diskPlays_walk (room : Int) (A : Option Addr) (ca : Nat) (ops : List (Int × List Int × Int)) (w : World) (_ : (Lit.int .i64 room).wf = true) (hA : KOp.C w A ops.length ops) (hca : ops.length ≤ ca)
    (sa : ops.length * 40 ≤ 140737488351232 ∧ ∀ y ∈ ops, sI y.1 ∧ (sB y.2.1 ∧ sI y.2.2)) :
    Calls Try.prog 8 #[.int .i64 room, .slice A ops.length ca] w fun e w' => e = .returned (.bool true) ∧ Below w.heap.size w w' := by
  by_cases h : room < 0 ∨ 1048576 < room
  · exact diskPlays_bad room A _ ca w h
  · exact diskPlays_ok room A ops _ ca w hA (fun o ho => by have := (sa.2 o ho).2.1.1; omega) (by omega) (by omega)
end Go.Proofs.Ytacnogbdifgmeaa
