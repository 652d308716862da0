/- The document's network: Wrong, Send, Without, Lose. Printed by wip/gen/refnet.py. -/
import Derived.Test.YtenblkbieaadnaaNetE
import Derived.Test.YtenblkbieaadnaaMake
import Derived.Test.YtenblkbieaadnaaJoin
set_option linter.unusedVariables false
set_option linter.unusedSimpArgs false
namespace Go.Proofs.Ytenblkbieaadnaa
open Go.RowKit Go.Proofs.YtenblkbieaadnaaW.PrintWords Go.Proofs.YtenblkbieaadnaaW.PrintLast
/-- A packet as the document has it: its bytes as a text. -/
abbrev pkT (q : Pkt) : List Value := [.int .i64 q.1, .int .i64 q.2.1, .string (strOfNums q.2.2)]
theorem pkT_one (l : List Pkt) : ∀ u ∈ l.flatMap pkT, u.oneCell' = true := by
  intro u hu
  obtain ⟨q, _, hq⟩ := List.mem_flatMap.1 hu
  simp only [pkT, List.mem_cons, List.not_mem_nil, or_false] at hq
  rcases hq with rfl | rfl | rfl <;> rfl
theorem pkT_at : ∀ (l : List Pkt) (j i : Nat) (q : Pkt), l[j]? = some q → i < 3 → (l.flatMap pkT)[j * 3 + i]? = (pkT q)[i]?
  | [], j, i, q, h, _ => by simp at h
  | x :: xs, 0, i, q, h, hi => by
    obtain rfl : x = q := by simpa using h
    rw [List.flatMap_cons, List.getElem?_append_left (by simp [pkT]; omega), Nat.zero_mul, Nat.zero_add]
  | x :: xs, j + 1, i, q, h, hi => by
    rw [List.flatMap_cons, List.getElem?_append_right (by simp [pkT]; omega), show (j + 1) * 3 + i - (pkT x).length = j * 3 + i by simp [pkT]; omega]
    exact pkT_at xs j i q (by simpa using h) hi
theorem pkT_take : ∀ (l : List Pkt) (j : Nat), (l.flatMap pkT).take (j * 3) = (l.take j).flatMap pkT
  | [], j => by simp
  | x :: xs, 0 => by simp
  | x :: xs, j + 1 => by
    rw [List.flatMap_cons, show (j + 1) * 3 = (pkT x).length + j * 3 by simp [pkT]; omega, List.take_length_add_append, pkT_take xs j, List.take_succ_cons, List.flatMap_cons]
theorem pkT_drop : ∀ (l : List Pkt) (j : Nat), (l.flatMap pkT).drop (j * 3) = (l.drop j).flatMap pkT
  | [], j => by simp
  | x :: xs, 0 => by simp
  | x :: xs, j + 1 => by
    rw [List.flatMap_cons, show (j + 1) * 3 = (pkT x).length + j * 3 by simp [pkT]; omega, List.drop_length_add_append, pkT_drop xs j, List.drop_succ_cons]
theorem pkT_len (l : List Pkt) : (l.flatMap pkT).length = l.length * 3 := by
  induction l with
  | nil => rfl
  | cons x xs ih => rw [List.flatMap_cons, List.length_append, ih, List.length_cons]; simp [pkT]; omega
theorem i64_isN (n : Int) : IntKind.i64.wrap n = wrap64 n := by unfold wrap64; exact IntKind.wrap_i64 n
theorem i64_inN (x : Int) (h0 : -9223372036854775808 ≤ x) (h1 : x ≤ 9223372036854775807) : wrap64 x = x ∧ IntKind.i64.wrap x = x := by
  have h : wrap64 x = x := by unfold wrap64; omega
  exact ⟨h, by rw [i64_isN, h]⟩
theorem Try.infoRP : (Try.prog.info? 65).map (fun i => (i.zero, i.size, i.bytes)) = some (some (.agg #[.int .i64 0, .int .i64 0, .string (ByteArray.mk #[])]), 3, 32) := by kernel_rfl
theorem Try.infoRP' : ∃ i, Try.prog.info? 65 = some i ∧ i.size = 3 := by
  have h : (Try.prog.info? 65).map (·.size) = some 3 := by kernel_rfl
  cases hi : Try.prog.info? 65 with
  | none => rw [hi] at h; cases h
  | some i => rw [hi] at h; exact ⟨i, rfl, by simpa using h⟩
section
variable {w0 w : World} {F : HP}
/-- The cells of a packet of the document's row. -/
theorem rpk_at {B : Option Addr} {m cp : Nat} {ps : List Pkt} (h : Hw w0 w (crow 3 65 B m cp (ps.flatMap pkT) * F)) (hm : m = ps.length) (i : Nat) (hi : i < m) :
    ∃ ad f t xs, B = some ad ∧ w.cell? ⟨(ad.add (i * 3)).block, (ad.add (i * 3)).off, none⟩ = some (.int .i64 f) ∧ w.cell? ⟨(ad.add (i * 3)).block, (ad.add (i * 3)).off + 1, none⟩ = some (.int .i64 t) ∧ w.cell? ⟨(ad.add (i * 3)).block, (ad.add (i * 3)).off + 2, none⟩ = some (.string (strOfNums xs)) ∧
      w.cell? (ad.add (i * 3)) = some (.int .i64 f) ∧ Aside0 (ps[i]? = some (f, t, xs)) := by
  obtain ⟨b, off, rfl, hc⟩ := crow_cell h (by omega)
  obtain ⟨⟨f, t, xs⟩, hp⟩ : ∃ p, ps[i]? = some p := ⟨_, List.getElem?_eq_getElem (by omega)⟩
  have h0 := pkT_at ps i 0 _ hp (by omega)
  have h1 := pkT_at ps i 1 _ hp (by omega)
  have h2 := pkT_at ps i 2 _ hp (by omega)
  refine ⟨⟨b, off, none⟩, f, t, xs, rfl, ?_, ?_, ?_, ?_, ⟨hp⟩⟩
  · rw [Addr.add_lit]; exact (hc _ _ h0).1
  · rw [Addr.add_lit]; exact (hc _ _ h1).1
  · rw [Addr.add_lit]; exact (hc _ _ h2).1
  · rw [Addr.add_lit]; exact (hc _ _ h0).1
/-- What is read of a row of packets. -/
theorem rpk_reads {B : Option Addr} {m cp : Nat} {ps : List Pkt} (h : Hw w0 w (crow 3 65 B m cp (ps.flatMap pkT) * F)) : 0 < m → ∃ ad, B = some ad ∧ ∀ j u, (ps.flatMap pkT)[j]? = some u → w.cell? (ad.add j) = some u := fun hp => crow_reads h hp
theorem rnwrong_ok (k : Int) (w : World) (h0 : 1 ≤ k) (h1 : k ≤ 8) : Calls Try.prog 20 #[.int .i64 k] w fun e w' => e = .returned (.int .i64 0) ∧ w' = w := by
  have d1 : decide (k < 1) = false := by simp; omega
  have d2 : decide (8 < k) = false := by simp; omega
  go_enter Try.func20, Try.ntmps20
  go_wp2_with fail
  go_ret
  exact ⟨rfl, rfl⟩
theorem rnwrong_bad (k : Int) (w : World) (h : k < 1 ∨ 8 < k) : Calls Try.prog 20 #[.int .i64 k] w fun e w' => e = .returned (.int .i64 1) ∧ w' = w := by
  by_cases h1 : k < 1
  · have d1 : decide (k < 1) = true := by simpa using h1
    go_enter Try.func20, Try.ntmps20
    go_wp2_with fail
    go_ret
    exact ⟨rfl, rfl⟩
  · have d1 : decide (k < 1) = false := by simpa using h1
    have d2 : decide (8 < k) = true := by simp; omega
    go_enter Try.func20, Try.ntmps20
    go_wp2_with fail
    go_ret
    exact ⟨rfl, rfl⟩

set_option maxHeartbeats 6400000 in
set_option maxRecDepth 100000 in
theorem rnsend_r1 (A : Option Addr) (n c : Nat) (ps : List Pkt) (k f t : Int) (s : ByteArray) (h1 : f < 0) (h : Hw w0 w (crow 3 65 A n c (ps.flatMap pkT) * F)) :
    Calls Try.prog 22 #[.slice A n c, .int .i64 k, .agg #[.int .i64 f, .int .i64 t, .string s]] w fun e w' => e = .returned (.tuple #[.slice A n c, .int .i64 1]) ∧ Hw w0 w' (crow 3 65 A n c (ps.flatMap pkT) * F) := by
  have HB := Aside0.mk (h.alloc (.cells #[.int .i64 f, .int .i64 t, .string s] 65))
  have b0 := HB.out.cellAt w.heap.size 0 (v := .int .i64 f) rfl
  have b1 := HB.out.cellAt w.heap.size 1 (v := .int .i64 t) rfl
  have d1 : decide (f < 0) = true := by simp; omega
  clear h
  go_enter Try.func22, Try.ntmps22
  go_wp2_with fail
  go_ret2
  exact ⟨rfl, HB.out.right⟩
set_option maxHeartbeats 6400000 in
set_option maxRecDepth 100000 in
theorem rnsend_r2 (A : Option Addr) (n c : Nat) (ps : List Pkt) (k f t : Int) (s : ByteArray) (h1 : 0 ≤ f) (h2 : k ≤ f) (h : Hw w0 w (crow 3 65 A n c (ps.flatMap pkT) * F)) :
    Calls Try.prog 22 #[.slice A n c, .int .i64 k, .agg #[.int .i64 f, .int .i64 t, .string s]] w fun e w' => e = .returned (.tuple #[.slice A n c, .int .i64 1]) ∧ Hw w0 w' (crow 3 65 A n c (ps.flatMap pkT) * F) := by
  have HB := Aside0.mk (h.alloc (.cells #[.int .i64 f, .int .i64 t, .string s] 65))
  have b0 := HB.out.cellAt w.heap.size 0 (v := .int .i64 f) rfl
  have b1 := HB.out.cellAt w.heap.size 1 (v := .int .i64 t) rfl
  have d1 : decide (f < 0) = false := by simp; omega
  have d2 : decide (k ≤ f) = true := by simp; omega
  clear h
  go_enter Try.func22, Try.ntmps22
  go_wp2_with fail
  go_ret2
  exact ⟨rfl, HB.out.right⟩
set_option maxHeartbeats 6400000 in
set_option maxRecDepth 100000 in
theorem rnsend_r3 (A : Option Addr) (n c : Nat) (ps : List Pkt) (k f t : Int) (s : ByteArray) (h1 : 0 ≤ f) (h2 : f < k) (h3 : t < 0) (h : Hw w0 w (crow 3 65 A n c (ps.flatMap pkT) * F)) :
    Calls Try.prog 22 #[.slice A n c, .int .i64 k, .agg #[.int .i64 f, .int .i64 t, .string s]] w fun e w' => e = .returned (.tuple #[.slice A n c, .int .i64 1]) ∧ Hw w0 w' (crow 3 65 A n c (ps.flatMap pkT) * F) := by
  have HB := Aside0.mk (h.alloc (.cells #[.int .i64 f, .int .i64 t, .string s] 65))
  have b0 := HB.out.cellAt w.heap.size 0 (v := .int .i64 f) rfl
  have b1 := HB.out.cellAt w.heap.size 1 (v := .int .i64 t) rfl
  have d1 : decide (f < 0) = false := by simp; omega
  have d2 : decide (k ≤ f) = false := by simp; omega
  have d3 : decide (t < 0) = true := by simp; omega
  clear h
  go_enter Try.func22, Try.ntmps22
  go_wp2_with fail
  go_ret2
  exact ⟨rfl, HB.out.right⟩
set_option maxHeartbeats 6400000 in
set_option maxRecDepth 100000 in
theorem rnsend_r4 (A : Option Addr) (n c : Nat) (ps : List Pkt) (k f t : Int) (s : ByteArray) (h1 : 0 ≤ f) (h2 : f < k) (h3 : 0 ≤ t) (h4 : k ≤ t) (h : Hw w0 w (crow 3 65 A n c (ps.flatMap pkT) * F)) :
    Calls Try.prog 22 #[.slice A n c, .int .i64 k, .agg #[.int .i64 f, .int .i64 t, .string s]] w fun e w' => e = .returned (.tuple #[.slice A n c, .int .i64 1]) ∧ Hw w0 w' (crow 3 65 A n c (ps.flatMap pkT) * F) := by
  have HB := Aside0.mk (h.alloc (.cells #[.int .i64 f, .int .i64 t, .string s] 65))
  have b0 := HB.out.cellAt w.heap.size 0 (v := .int .i64 f) rfl
  have b1 := HB.out.cellAt w.heap.size 1 (v := .int .i64 t) rfl
  have d1 : decide (f < 0) = false := by simp; omega
  have d2 : decide (k ≤ f) = false := by simp; omega
  have d3 : decide (t < 0) = false := by simp; omega
  have d4 : decide (k ≤ t) = true := by simp; omega
  clear h
  go_enter Try.func22, Try.ntmps22
  go_wp2_with fail
  go_ret2
  exact ⟨rfl, HB.out.right⟩
theorem rnsend_range (A : Option Addr) (n c : Nat) (ps : List Pkt) (k f t : Int) (s : ByteArray) (hr : f < 0 ∨ k ≤ f ∨ t < 0 ∨ k ≤ t) (h : Hw w0 w (crow 3 65 A n c (ps.flatMap pkT) * F)) :
    Calls Try.prog 22 #[.slice A n c, .int .i64 k, .agg #[.int .i64 f, .int .i64 t, .string s]] w fun e w' => e = .returned (.tuple #[.slice A n c, .int .i64 1]) ∧ Hw w0 w' (crow 3 65 A n c (ps.flatMap pkT) * F) := by
  by_cases h1 : f < 0
  · exact rnsend_r1 A n c ps k f t s h1 h
  · by_cases h2 : k ≤ f
    · exact rnsend_r2 A n c ps k f t s (by omega) h2 h
    · by_cases h3 : t < 0
      · exact rnsend_r3 A n c ps k f t s (by omega) (by omega) h3 h
      · exact rnsend_r4 A n c ps k f t s (by omega) (by omega) (by omega) (by omega) h
set_option maxHeartbeats 6400000 in
set_option maxRecDepth 100000 in
theorem rnsend_full (A : Option Addr) (n c : Nat) (ps : List Pkt) (k f t : Int) (s : ByteArray) (h1 : 0 ≤ f) (h2 : f < k) (h3 : 0 ≤ t) (h4 : t < k) (hn : 4096 ≤ n) (h : Hw w0 w (crow 3 65 A n c (ps.flatMap pkT) * F)) :
    Calls Try.prog 22 #[.slice A n c, .int .i64 k, .agg #[.int .i64 f, .int .i64 t, .string s]] w fun e w' => e = .returned (.tuple #[.slice A n c, .int .i64 3]) ∧ Hw w0 w' (crow 3 65 A n c (ps.flatMap pkT) * F) := by
  have HB := Aside0.mk (h.alloc (.cells #[.int .i64 f, .int .i64 t, .string s] 65))
  have b0 := HB.out.cellAt w.heap.size 0 (v := .int .i64 f) rfl
  have b1 := HB.out.cellAt w.heap.size 1 (v := .int .i64 t) rfl
  have d1 : decide (f < 0) = false := by simp; omega
  have d2 : decide (k ≤ f) = false := by simp; omega
  have d3 : decide (t < 0) = false := by simp; omega
  have d4 : decide (k ≤ t) = false := by simp; omega
  have d5 : decide ((4096 : Int) ≤ (n : Int)) = true := by simp; omega
  have d6 : decide (4096 ≤ n) = true := by simp; omega
  clear h
  go_enter Try.func22, Try.ntmps22
  go_wp2_with fail
  go_ret2
  exact ⟨rfl, HB.out.right⟩
set_option maxHeartbeats 6400000 in
set_option maxRecDepth 100000 in
theorem rnsend_ok (A : Option Addr) (n c : Nat) (ps : List Pkt) (k f t : Int) (xs : List Int) (s : ByteArray) (hs : s = strOfNums xs) (h1 : 0 ≤ f) (h2 : f < k) (h3 : 0 ≤ t) (h4 : t < k) (hn : n < 4096) (h : Hw w0 w (crow 3 65 A n c (ps.flatMap pkT) * F)) :
    Calls Try.prog 22 #[.slice A n c, .int .i64 k, .agg #[.int .i64 f, .int .i64 t, .string s]] w fun e w' => ∃ A' c', e = .returned (.tuple #[.slice A' (n + 1) c', .int .i64 0]) ∧ Hw w0 w' (crow 3 65 A' (n + 1) c' ((ps ++ [(f, t, xs)]).flatMap pkT) * F) := by
  have HB := Aside0.mk (h.alloc (.cells #[.int .i64 f, .int .i64 t, .string s] 65))
  obtain ⟨bx, hbx⟩ : ∃ b, b = w.heap.size := ⟨_, rfl⟩
  rw [← hbx] at HB
  have b0 := HB.out.cellAt bx 0 (v := .int .i64 f) rfl
  have b1 := HB.out.cellAt bx 1 (v := .int .i64 t) rfl
  have d1 : decide (f < 0) = false := by simp; omega
  have d2 : decide (k ≤ f) = false := by simp; omega
  have d3 : decide (t < 0) = false := by simp; omega
  have d4 : decide (k ≤ t) = false := by simp; omega
  have d5 : decide ((4096 : Int) ≤ (n : Int)) = false := by simp; omega
  have d6 : decide (4096 ≤ n) = false := by simp; omega
  have HE := Aside0.mk (crow_blk (sz := 3) (n := 0) (cs := []) rfl (by unfold maxLen; omega) (fun u hu => by simp at hu) (HB.out.alloc (.cells ([] : List Value).toArray 65 (0, 0))))
  simp only [World.size_alloc] at HE
  have RD := Aside0.mk (rpk_reads (HE.out.at (crow 3 65 A n c (ps.flatMap pkT))))
  have CL := Aside0.mk (crow_len h)
  have HS := Aside0.mk hs
  clear h hs
  go_enter Try.func22, Try.ntmps22
  go_upto_region 5 with fail
  rw [← hbx]
  clear hbx
  go_wp2_with (first | (at_builtin; (refine crow_append (n := 0) (news := ps.flatMap pkT) (m := n) (c := c) rfl (.tmp 34) (.tmp 35) 55 (.agg #[.int .i64 0, .int .i64 0, .string (ByteArray.mk #[])]) 32 rfl Try.underlying55 Try.infoRP rfl (by decide) rfl rfl HE.out CL.out (pkT_one _) RD.out (by decide) (by omega) ?_); intro A6 c6 w6 H6'; have H6h := H6'.out; rw [Nat.zero_add, List.nil_append] at H6h; have H6 := Aside0.mk (H6h.at (blk bx (.cells #[.int .i64 f, .int .i64 t, .string s] 65))); clear H6h H6'; have x0 := H6.out.cellAt bx 0 (v := .int .i64 f) rfl; have x1 := H6.out.cellAt bx 1 (v := .int .i64 t) rfl; have x2 := H6.out.cellAt bx 2 (v := .string s) rfl; have ltx := H6.out.ltB bx; have H7 := Aside0.mk ((H6.out.alloc (.cells [.int .i64 f, .int .i64 t, .string s].toArray 65))); have RB := blk_cells H7.out; have H8 := Aside0.mk (H7.out.at (crow 3 65 A6 n c6 (ps.flatMap pkT)))) | (at_builtin; (refine crow_append (n := n) (news := [.int .i64 f, .int .i64 t, .string s]) (m := 1) (c := 1) rfl (.tmp 37) (.tmp 39) 55 (.agg #[.int .i64 0, .int .i64 0, .string (ByteArray.mk #[])]) 32 rfl Try.underlying55 Try.infoRP rfl (by decide) rfl rfl H8.out rfl (by intro u hu; simp only [List.mem_cons, List.not_mem_nil, or_false] at hu; rcases hu with rfl | rfl | rfl <;> rfl) (fun _ => ⟨_, rfl, RB⟩) (by decide) (by omega) ?_); intro A7 c7 w7 H9))
  go_ret2
  refine ⟨A7, c7, rfl, ?_⟩
  have e5 : (ps ++ [(f, t, xs)]).flatMap pkT = ps.flatMap pkT ++ [.int .i64 f, .int .i64 t, .string s] := by rw [List.flatMap_append, HS.out]; rfl
  rw [e5]
  exact (((H9.out.dropB bx).dropB w6.heap.size).drop (crow 3 65 A n c (ps.flatMap pkT))).as (by ac_rfl)
theorem pkT_set : ∀ (l : List Pkt) (i : Nat) (f t : Int) (xs ys : List Int), l[i]? = some (f, t, xs) → (l.flatMap pkT).set (i * 3 + 2) (.string (strOfNums ys)) = (l.set i (f, t, ys)).flatMap pkT
  | [], i, f, t, xs, ys, h => by simp at h
  | x :: l, 0, f, t, xs, ys, h => by
    obtain rfl : x = (f, t, xs) := by simpa using h
    simp [pkT]
  | x :: l, i + 1, f, t, xs, ys, h => by
    rw [List.flatMap_cons, List.set_append_right _ _ (by simp [pkT]; omega), show (i + 1) * 3 + 2 - (pkT x).length = i * 3 + 2 by simp [pkT]; omega, pkT_set l i f t xs ys (by simpa using h)]
    rfl
theorem rpk_put {ad : Addr} {m cp : Nat} {ps : List Pkt} (h : Hw w0 w (crow 3 65 (some ad) m cp (ps.flatMap pkT) * F)) (hm : m = ps.length) (i : Nat) {f t : Int} {xs : List Int} (hq : ps[i]? = some (f, t, xs)) :
    w.cell? ⟨(ad.add (i * 3)).block, (ad.add (i * 3)).off + 2, none⟩ = some (.string (strOfNums xs)) ∧ w.frozen? ⟨(ad.add (i * 3)).block, (ad.add (i * 3)).off + 2, none⟩ = false ∧
      ∀ ys, Hw w0 (w.setCell ⟨(ad.add (i * 3)).block, (ad.add (i * 3)).off + 2, none⟩ (.string (strOfNums ys))) (crow 3 65 (some ad) m cp ((ps.set i (f, t, ys)).flatMap pkT) * F) := by
  have hi : i < ps.length := (List.getElem?_eq_some_iff.1 hq).1
  obtain ⟨b, off, e, hc⟩ := crow_cell h (by omega)
  cases e
  have h2 := hc _ _ (pkT_at ps i 2 _ hq (by omega))
  rw [Addr.add_lit]
  refine ⟨h2.1, h2.2, fun ys => ?_⟩
  rw [← pkT_set ps i f t xs ys hq]
  exact crow_set (j := i * 3 + 2) h (by rw [pkT_len]; omega) rfl

theorem rpk_cells {ad : Addr} {m cp : Nat} {ps : List Pkt} (h : Hw w0 w (crow 3 65 (some ad) m cp (ps.flatMap pkT) * F)) (hm : m = ps.length) (i : Nat) {f t : Int} {xs : List Int} (hq : ps[i]? = some (f, t, xs)) :
    w.cell? (ad.add (i * 3)) = some (.int .i64 f) ∧ w.cell? ⟨(ad.add (i * 3)).block, (ad.add (i * 3)).off + 1, none⟩ = some (.int .i64 t) ∧ w.cell? ⟨(ad.add (i * 3)).block, (ad.add (i * 3)).off + 2, none⟩ = some (.string (strOfNums xs)) ∧ w.cell? ⟨(ad.add (i * 3)).block, (ad.add (i * 3)).off, none⟩ = some (.int .i64 f) := by
  have hi : i < m := by rw [hm]; exact (List.getElem?_eq_some_iff.1 hq).1
  obtain ⟨ad', f', t', xs', e, c0, c1, c2, c3, hp⟩ := rpk_at h hm i hi
  cases e
  rw [hp.out] at hq
  cases hq
  exact ⟨c3, c1, c2, c0⟩

set_option maxHeartbeats 6400000 in
set_option maxRecDepth 100000 in
theorem rnwithout_r1 (A : Option Addr) (n c : Nat) (i : Int) (h1 : i < 0) (h : Hw w0 w F) :
    Calls Try.prog 24 #[.slice A n c, .int .i64 i] w fun e w' => e = .returned (.tuple #[.slice A n c, .agg #[.int .i64 0, .int .i64 0, .string (ByteArray.mk #[])], .int .i64 4]) ∧ Hw w0 w' F := by
  obtain ⟨b4, hb4⟩ : ∃ b4, b4 = w.heap.size := ⟨_, rfl⟩
  have H1 := Aside0.mk (h.alloc (.cells #[.int .i64 0, .int .i64 0, .string (ByteArray.mk #[])] 65))
  rw [← hb4] at H1
  have d1 : decide (i < 0) = true := by simp; omega
  have f4 := H1.out.freeAt b4
  have k0 := H1.out.cellAt b4 0 (v := .int .i64 0) rfl
  have k1 := H1.out.cellAt b4 1 (v := .int .i64 0) rfl
  have k2 := H1.out.cellAt b4 2 (v := .string (ByteArray.mk #[])) rfl
  have H5 := Aside0.mk (((H1.out.set 0 (.int .i64 0)).set 1 (.int .i64 0)).set 2 (.string (ByteArray.mk #[])))
  clear h
  go_enter Try.func24, Try.ntmps24
  go_upto_region 2 with fail
  rw [← hb4]
  clear hb4
  go_wp2_with fail
  have z0 := H5.out.cell (i := 0) (v := .int .i64 0) rfl
  have z1 := H5.out.cell (i := 1) (v := .int .i64 0) rfl
  have z2 := H5.out.cell (i := 2) (v := .string (ByteArray.mk #[])) rfl
  clear f4 k0 k1 k2
  refine bodyPost_ret (v := .tuple #[.slice A n c, .agg #[.int .i64 0, .int .i64 0, .string (ByteArray.mk #[])], .int .i64 4]) (by simp [results, Try.results24, go_sem, z0, z1, z2]) rfl ⟨rfl, H5.out.right⟩
set_option maxHeartbeats 6400000 in
set_option maxRecDepth 100000 in
theorem rnwithout_r2 (A : Option Addr) (n c : Nat) (i : Int) (h1 : 0 ≤ i) (h2 : (n : Int) ≤ i) (h : Hw w0 w F) :
    Calls Try.prog 24 #[.slice A n c, .int .i64 i] w fun e w' => e = .returned (.tuple #[.slice A n c, .agg #[.int .i64 0, .int .i64 0, .string (ByteArray.mk #[])], .int .i64 4]) ∧ Hw w0 w' F := by
  obtain ⟨b4, hb4⟩ : ∃ b4, b4 = w.heap.size := ⟨_, rfl⟩
  have H1 := Aside0.mk (h.alloc (.cells #[.int .i64 0, .int .i64 0, .string (ByteArray.mk #[])] 65))
  rw [← hb4] at H1
  have d1 : decide (i < 0) = false := by simp; omega
  have d2 : decide ((n : Int) ≤ i) = true := by simp; omega
  have f4 := H1.out.freeAt b4
  have k0 := H1.out.cellAt b4 0 (v := .int .i64 0) rfl
  have k1 := H1.out.cellAt b4 1 (v := .int .i64 0) rfl
  have k2 := H1.out.cellAt b4 2 (v := .string (ByteArray.mk #[])) rfl
  have H5 := Aside0.mk (((H1.out.set 0 (.int .i64 0)).set 1 (.int .i64 0)).set 2 (.string (ByteArray.mk #[])))
  clear h
  go_enter Try.func24, Try.ntmps24
  go_upto_region 2 with fail
  rw [← hb4]
  clear hb4
  go_wp2_with fail
  have z0 := H5.out.cell (i := 0) (v := .int .i64 0) rfl
  have z1 := H5.out.cell (i := 1) (v := .int .i64 0) rfl
  have z2 := H5.out.cell (i := 2) (v := .string (ByteArray.mk #[])) rfl
  clear f4 k0 k1 k2
  refine bodyPost_ret (v := .tuple #[.slice A n c, .agg #[.int .i64 0, .int .i64 0, .string (ByteArray.mk #[])], .int .i64 4]) (by simp [results, Try.results24, go_sem, z0, z1, z2]) rfl ⟨rfl, H5.out.right⟩
theorem rnwithout_bad (A : Option Addr) (n c : Nat) (i : Int) (hi : i < 0 ∨ (n : Int) ≤ i) (h : Hw w0 w F) :
    Calls Try.prog 24 #[.slice A n c, .int .i64 i] w fun e w' => e = .returned (.tuple #[.slice A n c, .agg #[.int .i64 0, .int .i64 0, .string (ByteArray.mk #[])], .int .i64 4]) ∧ Hw w0 w' F := by
  by_cases h1 : i < 0
  · exact rnwithout_r1 A n c i h1 h
  · exact rnwithout_r2 A n c i (by omega) (by omega) h
set_option maxHeartbeats 6400000 in
set_option maxRecDepth 100000 in
theorem rnwithout_ok (A : Option Addr) (n c : Nat) (ps : List Pkt) (i : Nat) (hi : i < n) (hm : n = ps.length) (hn : n ≤ 4096) (h : Hw w0 w (crow 3 65 A n c (ps.flatMap pkT) * F)) :
    Calls Try.prog 24 #[.slice A n c, .int .i64 i] w fun e w' => ∃ A' c' f t xs, e = .returned (.tuple #[.slice A' (n - 1) c', .agg #[.int .i64 f, .int .i64 t, .string (strOfNums xs)], .int .i64 0]) ∧ ps[i]? = some (f, t, xs) ∧
      Hw w0 w' (crow 3 65 A' (n - 1) c' ((ps.eraseIdx i).flatMap pkT) * (crow 3 65 A n c (ps.flatMap pkT) * F)) := by
  obtain ⟨b4, hb4⟩ : ∃ b4, b4 = w.heap.size := ⟨_, rfl⟩
  have H1 := Aside0.mk (h.alloc (.cells #[.int .i64 0, .int .i64 0, .string (ByteArray.mk #[])] 65))
  rw [← hb4] at H1
  have MM := Aside0.mk hm
  obtain ⟨ad, f, t, xs, rfl, c0, c1, c2, c3, HP⟩ := rpk_at (H1.out.at (crow 3 65 A n c (ps.flatMap pkT))) hm i hi
  have hmc : n ≤ c := crow_le (H1.out.at (crow 3 65 (some ad) n c (ps.flatMap pkT)))
  obtain ⟨inf, hinf, hiz⟩ := Option.map_eq_some_iff.1 Try.infoRP
  simp only [Prod.mk.injEq] at hiz
  have hcl : ∀ W : World, (Instr.slice 55 (.slice (some ad) n c) none (some (.int .i64 (i : Int))) none).run Try.prog W = .ok (.slice (some ad) i c) W := fun W => by
    have := cut_to (P := Try.prog) 55 65 .i64 Try.underlying55 hinf (some ad) n c (i : Int) (by omega) (by omega) hmc W
    simpa using this
  obtain ⟨D, hD⟩ : ∃ D : Option Addr, D = (if c = i + 1 then (some ad) else (some ad).map (·.add ((i + 1) * 3))) := ⟨_, rfl⟩
  obtain ⟨m2, hm2⟩ : ∃ m2, m2 = n - (i + 1) := ⟨_, rfl⟩
  obtain ⟨c2', hc2'⟩ : ∃ c2', c2' = c - (i + 1) := ⟨_, rfl⟩
  have hcf : ∀ W : World, (Instr.slice 55 (.slice (some ad) n c) (some (.int .i64 ((i : Int) + 1))) none none).run Try.prog W = .ok (.slice D m2 c2') W := by
    intro W
    rw [cut_from 55 65 .i64 Try.underlying55 hinf 3 hiz.2.1 (some ad) n c ((i : Int) + 1) (by omega) (by omega) W]
    rw [show ((i : Int) + 1).toNat = i + 1 by omega, ← hD, ← hm2, ← hc2']
  have HE := Aside0.mk (crow_blk (sz := 3) (n := 0) (cs := []) rfl (by unfold maxLen; omega) (fun u hu => by simp at hu) (H1.out.alloc (.cells ([] : List Value).toArray 65 (0, 0))))
  simp only [World.size_alloc] at HE
  have CL := Aside0.mk (crow_len (H1.out.at (crow 3 65 (some ad) n c (ps.flatMap pkT))))
  have LT := Aside0.mk (show ((ps.flatMap pkT).take (i * 3)).length = i * 3 by rw [List.length_take, CL.out]; omega)
  have LD := Aside0.mk (show ((ps.flatMap pkT).drop ((i + 1) * 3)).length = m2 * 3 by rw [List.length_drop, CL.out]; omega)
  have ONE := Aside0.mk (show ∀ u ∈ (ps.flatMap pkT).take (i * 3), u.oneCell' = true from fun u hu => pkT_one ps u (List.mem_of_mem_take hu))
  have ONE2 := Aside0.mk (show ∀ u ∈ (ps.flatMap pkT).drop ((i + 1) * 3), u.oneCell' = true from fun u hu => pkT_one ps u (List.mem_of_mem_drop hu))
  have RD := Aside0.mk (fun hp : 0 < i => crow_reads (crow_take (HE.out.at (crow 3 65 (some ad) n c (ps.flatMap pkT))) (m := i) (c' := c) (by omega) (by omega) (Nat.le_refl _)) hp)
  have E1 := Aside0.mk (show i + m2 = n - 1 by omega)
  have HDD := Aside0.mk hD
  have HM2 := Aside0.mk hm2
  have d1 : decide ((i : Int) < 0) = false := by simp
  have d2 : decide ((n : Int) ≤ (i : Int)) = false := by simp; omega
  have d3 : decide (n ≤ i) = false := by simp; omega
  have ew : wrap64 ((i : Int) + 1) = (i : Int) + 1 := by unfold wrap64; omega
  have ew2 : IntKind.i64.wrap ((i : Int) + 1) = (i : Int) + 1 := by rw [i64_isN, ew]
  clear h hD hm2 hc2' hiz hinf hm c0 c1 c2 c3
  go_enter Try.func24, Try.ntmps24
  go_upto_region 3 with fail
  go_upto_region 4 with (at_builtin; (refine crow_append (n := 0) (news := (ps.flatMap pkT).take (i * 3)) (m := i) (c := c) rfl (.tmp 18) (.tmp 21) 55 (.agg #[.int .i64 0, .int .i64 0, .string (ByteArray.mk #[])]) 32 rfl Try.underlying55 Try.infoRP rfl (by decide) rfl rfl HE.out LT.out ONE.out RD.out (by decide) (by omega) ?_); intro A6 c6 w6 H6'; have H6h := H6'.out; rw [Nat.zero_add, List.nil_append] at H6h; have H6 := Aside0.mk H6h; clear H6h H6')
  rw [← hb4]
  have HD := Aside0.mk H6.out.drew
  obtain ⟨s0, s1, s2, s3⟩ := rpk_cells (HD.out.at (crow 3 65 (some ad) n c (ps.flatMap pkT))) MM.out i HP.out
  have RD2 := Aside0.mk (show 0 < m2 → ∃ ad', D = some ad' ∧ ∀ j u, ((ps.flatMap pkT).drop ((i + 1) * 3))[j]? = some u → w6.drew.cell? (ad'.add j) = some u from fun hp => by
    rw [HDD.out]
    exact crow_reads (crow_drop (HD.out.at (crow 3 65 (some ad) n c (ps.flatMap pkT))) (k := i + 1) (by have := HM2.out; omega)) (by have := HM2.out; omega))
  clear hb4
  refine start_ (n := 13) (S := fun w' => w'.cell? (ad.add (i * 3)) = some (.int .i64 f) ∧ w'.cell? ⟨(ad.add (i * 3)).block, (ad.add (i * 3)).off + 1, none⟩ = some (.int .i64 t) ∧ w'.cell? ⟨(ad.add (i * 3)).block, (ad.add (i * 3)).off + 2, none⟩ = some (.string (strOfNums xs)) ∧ w'.cell? ⟨(ad.add (i * 3)).block, (ad.add (i * 3)).off, none⟩ = some (.int .i64 f)) (ds := [11]) #[false, false, false, false, false, false, false, false, false, false, false, false, false] (by kernel_rfl) rfl rfl ⟨s0, s1, s2, s3⟩ (fun hHeld => ?_)
  refine pure_ (i := 0) (N := some 23) (v := ?_) (a' := ?_) #[true, false, false, false, false, false, false, false, false, false, false, false, false] rfl rfl (by kernel_rfl) (fun _ _ _ h => h) (Or.inl ⟨by rfl, ?_⟩) ?_ ?_
  rotate_left
  · intro w'
    go_simp
    with_reducible rfl
  rotate_left
  · simp only [Act.put, List.setIfInBounds_toArray, List.set_cons_zero, List.set_cons_succ, i64_w, i32_w]
    rfl
  refine pure_ (i := 1) (N := some 24) (v := ?_) (a' := ?_) #[true, true, false, false, false, false, false, false, false, false, false, false, false] rfl rfl (by kernel_rfl) (fun _ _ _ h => h) (Or.inl ⟨by rfl, ?_⟩) ?_ ?_
  rotate_left
  · intro w'
    go_simp
    with_reducible rfl
  rotate_left
  · simp only [Act.put, List.setIfInBounds_toArray, List.set_cons_zero, List.set_cons_succ, i64_w, i32_w]
    rfl
  refine pure_ (i := 2) (N := some 25) (v := ?_) (a' := ?_) #[true, true, true, false, false, false, false, false, false, false, false, false, false] rfl rfl (by kernel_rfl) (fun _ _ _ h => h) (Or.inl ⟨by rfl, ?_⟩) ?_ ?_
  rotate_left
  · intro w'
    go_simp
    with_reducible rfl
  rotate_left
  · simp only [Act.put, List.setIfInBounds_toArray, List.set_cons_zero, List.set_cons_succ, i64_w, i32_w]
    rfl
  refine pure_ (i := 3) (N := some 26) (v := ?_) (a' := ?_) #[true, true, true, true, false, false, false, false, false, false, false, false, false] rfl rfl (by kernel_rfl) (fun _ _ _ h => h) (Or.inl ⟨by rfl, ?_⟩) ?_ ?_
  rotate_left
  · intro w'
    go_simp
    with_reducible rfl
  rotate_left
  · simp only [Act.put, List.setIfInBounds_toArray, List.set_cons_zero, List.set_cons_succ, i64_w, i32_w]
    rfl
  refine pure_ (i := 4) (N := some 27) (v := ?_) (a' := ?_) #[true, true, true, true, true, false, false, false, false, false, false, false, false] rfl rfl (by kernel_rfl) (fun _ _ _ h => h) (Or.inl ⟨by rfl, ?_⟩) ?_ ?_
  rotate_left
  · intro w'
    go_simp
    with_reducible rfl
  rotate_left
  · simp only [Act.put, List.setIfInBounds_toArray, List.set_cons_zero, List.set_cons_succ, i64_w, i32_w]
    rfl
  refine pure_ (i := 6) (N := some 29) (v := ?_) (a' := ?_) #[true, true, true, true, true, false, true, false, false, false, false, false, false] rfl rfl (by kernel_rfl) (fun _ _ _ h => h) (Or.inl ⟨by rfl, ?_⟩) ?_ ?_
  rotate_left
  · intro w'
    go_simp
    with_reducible rfl
  rotate_left
  · simp only [Act.put, List.setIfInBounds_toArray, List.set_cons_zero, List.set_cons_succ, i64_w, i32_w]
    rfl
  refine pure_ (i := 7) (N := some 30) (v := ?_) (a' := ?_) #[true, true, true, true, true, false, true, true, false, false, false, false, false] rfl rfl (by kernel_rfl) (fun _ _ _ h => h) (Or.inl ⟨by rfl, ?_⟩) ?_ ?_
  rotate_left
  · intro w'
    go_simp
    with_reducible rfl
  rotate_left
  · simp only [Act.put, List.setIfInBounds_toArray, List.set_cons_zero, List.set_cons_succ, i64_w, i32_w]
    rfl
  refine pure_ (i := 8) (N := some 31) (v := ?_) (a' := ?_) #[true, true, true, true, true, false, true, true, true, false, false, false, false] rfl rfl (by kernel_rfl) (fun _ _ _ h => h) (Or.inl ⟨by rfl, ?_⟩) ?_ ?_
  rotate_left
  · intro w'
    go_simp
    with_reducible rfl
  rotate_left
  · simp only [Act.put, List.setIfInBounds_toArray, List.set_cons_zero, List.set_cons_succ, i64_w, i32_w]
    rfl
  refine take_ (i := 9) (N := some 32) (v := ?_) (a' := ?_) #[true, true, true, true, true, false, true, true, true, true, false, false, false] rfl rfl (by kernel_rfl) (fun _ _ _ h => h) (Or.inl ⟨by rfl, ?_⟩) hHeld ?_ ?_
  rotate_left
  · rintro w' ⟨s0, s1, s2, s3⟩
    go_simp
    with_reducible rfl
  rotate_left
  · simp only [Act.put, List.setIfInBounds_toArray, List.set_cons_zero, List.set_cons_succ, i64_w, i32_w]
    rfl
  refine one_ (i := 5) (N := some 28) #[true, true, true, true, true, true, true, true, true, true, false, false, false] rfl rfl (by kernel_rfl) (by decide) (fun K hK => ?_)
  refine crow_append_step (news := (ps.flatMap pkT).drop ((i + 1) * 3)) (by first | rfl | simp [Region.wanted]) (.tmp 23) (.tmp 27) 55 (.agg #[.int .i64 0, .int .i64 0, .string (ByteArray.mk #[])]) 32 rfl Try.underlying55 Try.infoRP rfl (by decide) rfl rfl HD.out LD.out ONE2.out RD2.out (by decide) (by have := E1.out; omega) ?_
  intro A7 c7 w7 h7
  have H7 := Aside0.mk h7.out
  clear h7
  obtain ⟨g0, g1, g2, g3⟩ := rpk_cells (H7.out.at (crow 3 65 (some ad) n c (ps.flatMap pkT))) MM.out i HP.out
  have fz := H7.out.freeAt b4
  have z0 := H7.out.cellAt b4 0 (v := .int .i64 0) rfl
  have z1 := H7.out.cellAt b4 1 (v := .int .i64 0) rfl
  have z2 := H7.out.cellAt b4 2 (v := .string (ByteArray.mk #[])) rfl
  refine hK.out _ _ ⟨g0, g1, g2, g3⟩ (fun hHeld => ?_)
  clear hK K
  refine norm_ (a' := ?_) ?_ ?_
  rotate_left
  · show Act.put _ (some 28) _ = _
    simp only [Act.put, List.setIfInBounds_toArray, List.set_cons_zero, List.set_cons_succ, i64_w, i32_w]
    rfl
  refine pure_ (i := 10) (N := some 4) (v := ?_) (a' := ?_) #[true, true, true, true, true, true, true, true, true, true, true, false, false] rfl rfl (by kernel_rfl) (fun _ _ _ h => h) (Or.inl ⟨by rfl, ?_⟩) ?_ ?_
  rotate_left
  · intro w'
    go_simp
    with_reducible rfl
  rotate_left
  · simp only [Act.put, List.setIfInBounds_toArray, List.set_cons_zero, List.set_cons_succ, i64_w, i32_w]
    rfl
  refine last_ (i := 11) (N := none) #[true, true, true, true, true, true, true, true, true, true, true, true, false] rfl rfl (by kernel_rfl) (by decide) (fun K hK => ?_)
  refine skip_ (w1 := ?_) (by rfl) rfl ?_ ?_
  rotate_left
  · go_simp
    rfl
  refine hK.out _ _ ?_
  clear hK K
  refine pure_ (i := 12) (N := some 6) (v := ?_) (a' := ?_) #[true, true, true, true, true, true, true, true, true, true, true, true, true] rfl rfl (by kernel_rfl) (fun _ _ _ h => h) (Or.inl ⟨by rfl, ?_⟩) ?_ ?_
  rotate_left
  · intro w'
    go_simp
    with_reducible rfl
  rotate_left
  · simp only [Act.put, List.setIfInBounds_toArray, List.set_cons_zero, List.set_cons_succ, i64_w, i32_w]
    rfl
  refine done_ (by kernel_rfl) ?_
  have H8 := Aside0.mk ((((H7.out.atB b4).set 0 (.int .i64 f)).set 1 (.int .i64 t)).set 2 (.string (strOfNums xs)))
  have y0 := H8.out.cell (i := 0) (v := .int .i64 f) rfl
  have y1 := H8.out.cell (i := 1) (v := .int .i64 t) rfl
  have y2 := H8.out.cell (i := 2) (v := .string (strOfNums xs)) rfl
  clear hHeld s0 s1 s2 s3 g0 g1 g2 g3 fz z0 z1 z2
  go_wp2_with fail
  refine bodyPost_ret (v := .tuple #[.slice A7 (i + m2) c7, .agg #[.int .i64 f, .int .i64 t, .string (strOfNums xs)], .int .i64 0]) (by simp [results, Try.results24, go_sem, y0, y1, y2]) rfl ⟨A7, c7, f, t, xs, by rw [E1.out], HP.out, ?_⟩
  have e5 : (ps.eraseIdx i).flatMap pkT = (ps.flatMap pkT).take (i * 3) ++ (ps.flatMap pkT).drop ((i + 1) * 3) := by rw [pkT_take, pkT_drop, ← List.flatMap_append, List.eraseIdx_eq_take_drop_succ]
  rw [e5, ← E1.out]
  exact H8.out.right.as (by ac_rfl)
set_option maxHeartbeats 6400000 in
set_option maxRecDepth 100000 in
theorem rnlose_ok (A : Option Addr) (n c : Nat) (ps : List Pkt) (nd : Int) (hm : n = ps.length) (hn : n ≤ 4096) (h : Hw w0 w (crow 3 65 A n c (ps.flatMap pkT) * F)) :
    Calls Try.prog 29 #[.slice A n c, .int .i64 nd] w fun e w' => ∃ A' n' c', e = .returned (.tuple #[.slice A' n' c', .int .i64 ((n : Int) - (n' : Int))]) ∧ n' = (ps.filter (fun z => z.2.1 != nd)).length ∧
      Hw w0 w' (crow 3 65 A' n' c' ((ps.filter (fun z => z.2.1 != nd)).flatMap pkT) * F) := by
  have MM := Aside0.mk hm
  have HO := Aside0.mk (crow_none (sz := 3) (e := 65) (A := none) (cs := []) rfl rfl h)
  clear h hm
  go_enter Try.func29, Try.ntmps29
  go_wp2_with fail
  go_loopw [7, 6] (fun i l wr => ∃ (j n1 : Nat) (A1 : Option Addr) (c1 : Nat), j ≤ n ∧ n1 ≤ j ∧ i = .int .i64 j ∧ l = .slice A1 n1 c1 ∧ Aside0 (n1 = ((ps.take j).filter (fun z => z.2.1 != nd)).length) ∧
    Aside0 (Hw w0 wr (crow 3 65 A1 n1 c1 (((ps.take j).filter (fun z => z.2.1 != nd)).flatMap pkT) * (crow 3 65 A n c (ps.flatMap pkT) * F)))) (fun i _ _ => n - (intOf i).toNat)
  case atStart => exact ⟨0, 0, none, 0, Nat.zero_le _, Nat.le_refl _, rfl, rfl, ⟨by simp⟩, ⟨by simpa using HO.out⟩⟩
  case round =>
    obtain ⟨j, n1, A1, c1, hj, hnj, rfl, rfl, HN, HW⟩ := hrel
    clear HO
    by_cases hlt : j < n
    · obtain ⟨ad, f, t, xs, rfl, c0, c1', c2, c3, hpi⟩ := rpk_at (HW.out.at (crow 3 65 A n c (ps.flatMap pkT))) MM.out j hlt
      have hzt : ps.take (j + 1) = ps.take j ++ [(f, t, xs)] := take_snoc_of hpi.out
      by_cases htt : t = nd
      · subst htt
        have HK := Aside0.mk (show (ps.take (j + 1)).filter (fun z => z.2.1 != t) = (ps.take j).filter (fun z => z.2.1 != t) by rw [hzt, List.filter_append]; simp)
        clear hzt
        go_wp2_with fail
        go_roundw
        case rel => exact ⟨j + 1, n1, A1, c1, by omega, by omega, by go_num, rfl, ⟨by rw [HK.out]; exact HN.out⟩, ⟨by rw [HK.out]; exact HW.out⟩⟩
        case measure => simp [intOf]; omega
      · have hne : (t == nd) = false := beq_eq_false_iff_ne.2 htt
        have HK := Aside0.mk (show (ps.take (j + 1)).filter (fun z => z.2.1 != nd) = (ps.take j).filter (fun z => z.2.1 != nd) ++ [(f, t, xs)] by
          have : (t != nd) = true := by simp [htt]
          rw [hzt, List.filter_append]; simp [this])
        have HA := Aside0.mk (HW.out.alloc (.cells [.int .i64 f, .int .i64 t, .string (strOfNums xs)].toArray 65))
        have RB := blk_cells HA.out
        have H2 := Aside0.mk (HA.out.at (crow 3 65 A1 n1 c1 (((ps.take j).filter (fun z => z.2.1 != nd)).flatMap pkT)))
        clear hzt HA
        go_wp2_with (at_builtin; (refine crow_append (n := n1) (news := [.int .i64 f, .int .i64 t, .string (strOfNums xs)]) (m := 1) (c := 1) rfl (.tmp 21) (.tmp 26) 55 (.agg #[.int .i64 0, .int .i64 0, .string (ByteArray.mk #[])]) 32 rfl Try.underlying55 Try.infoRP rfl (by decide) rfl rfl H2.out rfl (by intro u hu; simp only [List.mem_cons, List.not_mem_nil, or_false] at hu; rcases hu with rfl | rfl | rfl <;> rfl) (fun _ => ⟨_, rfl, RB⟩) (by decide) (by omega) ?_); intro A3 c3' w3 H3)
        go_roundw
        case rel => exact ⟨j + 1, n1 + 1, A3, c3', by omega, by omega, by go_num, rfl, ⟨by rw [HK.out, List.length_append, ← HN.out]; rfl⟩, ⟨by
          rw [HK.out, List.flatMap_append]
          exact (H3.out.dropB wr.heap.size).as (by ac_rfl)⟩⟩
        case measure => simp [intOf]; omega
    · have hjm : j = n := by omega
      subst hjm
      have ek : ps.take j = ps := List.take_of_length_le (by rw [MM.out]; exact Nat.le_refl _)
      rw [ek] at HN HW
      have ew : wrap64 ((j : Int) - (n1 : Int)) = (j : Int) - (n1 : Int) := by unfold wrap64; omega
      have ew2 : IntKind.i64.wrap ((j : Int) - (n1 : Int)) = (j : Int) - (n1 : Int) := by rw [i64_isN, ew]
      clear ek
      go_wp2_with fail
      go_ret2
      exact ⟨A1, n1, c1, rfl, HN.out, (HW.out.drop (crow 3 65 A j c (ps.flatMap pkT)))⟩
end
end Go.Proofs.Ytenblkbieaadnaa
