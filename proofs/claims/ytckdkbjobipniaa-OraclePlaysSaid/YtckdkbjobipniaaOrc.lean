/- The oracle: what is owned of it; Last, Closed, Pending. -/
import Derived.Test.YtckdkbjobipniaaOrcN
import Derived.Test.YtckdkbjobipniaaLogW
import Derived.Test.YtckdkbjobipniaaMapsC
set_option linter.unusedVariables false
set_option linter.unusedSimpArgs false
namespace Go.Proofs.Ytckdkbjobipniaa
open Go.RowKit Go.Proofs.YtckdkbjobipniaaW.PrintWords Go.Proofs.YtckdkbjobipniaaW.PrintLast
def issM (x : Iss) : Msg := ⟨1, x.src, 0, x.id, x.rev, 0, 0, false, [], [], [], []⟩
def issMH (x : Iss) : MH := ⟨issM x, nilH, nilH, nilH, nilH⟩
/-- The map of an oracle. -/
def MapIs (g : Lit → Option Value) (s : Orc) : Prop := ∀ id : Int, g (.int .i64 id) = if orev s id = 0 then none else some (.int .i64 (orev s id))
abbrev orcB (o q mb : Nat) (A : Option Addr) (n c : Nat) (last : Int) : HP := blk o (.cells #[.pointer (some ⟨q, 0, none⟩), .map (some mb), .slice A n c, .int .i64 last] 176)
abbrev orcC (A : Option Addr) (n c : Nat) (s : Orc) : HP := crow 12 27 A n c (((opend s).map issMH).flatMap mhC)
def OrcHw (w0 w : World) (F : HP) (o q : Nat) (s : Orc) : Prop := ∃ (mb : Nat) (A : Option Addr) (n c : Nat) (g : Lit → Option Value), MapIs g s ∧ n = (opend s).length ∧
  Hw w0 w (orcB o q mb A n c (olast s) * (mapHP Try.prog 2 mb g s.iss.length * (orcC A n c s * F)))
section
variable {w0 w : World} {F : HP} {o q : Nat} {s : Orc}
theorem olast_run (h : OrcHw w0 w F o q s) : Calls Try.prog 43 #[.pointer (some ⟨o, 0, none⟩)] w fun e w' => e = .returned (.int .i64 (olast s)) ∧ w' = w := by
  obtain ⟨mb, A, n, c, g, hm, hn, H⟩ := h
  have k3 := H.cellAt o 3 (v := .int .i64 (olast s)) rfl
  clear H hm hn
  go_enter Try.func43, Try.ntmps43
  go_wp2_with fail
  go_ret
  exact ⟨rfl, rfl⟩
set_option maxHeartbeats 1600000 in
theorem oclosed_run (h : OrcHw w0 w F o q s) (hr : ∀ x ∈ s.iss, -9223372036854775807 ≤ x.rev ∧ x.rev ≤ 9223372036854775807) : Calls Try.prog 45 #[.pointer (some ⟨o, 0, none⟩)] w fun e w' => e = .returned (.int .i64 (oclosed s)) ∧ w' = w := by
  obtain ⟨mb, A, n, c, g, hm, hn, H⟩ := h
  have k3 := H.cellAt o 3 (v := .int .i64 (olast s)) rfl
  have k2 := H.cellAt o 2 (v := .slice A n c) rfl
  cases hp : opend s with
  | nil =>
    have E := Aside0.mk (show oclosed s = olast s by unfold oclosed; rw [hp])
    obtain rfl : n = 0 := by rw [hn, hp]; rfl
    clear H hm hn hp
    go_enter Try.func45, Try.ntmps45
    go_wp2_with fail
    go_ret
    exact ⟨by rw [E.out]; rfl, rfl⟩
  | cons x l =>
    have E := Aside0.mk (show oclosed s = x.rev - 1 by unfold oclosed; rw [hp])
    have hn0 : 0 < n := by rw [hn, hp]; simp
    obtain ⟨ad, rfl, hc⟩ := crow_reads (H.at (orcC A n c s)) hn0
    have c4 : w.cell? (ad.add 4) = some (.int .i64 x.rev) := hc 4 _ (by rw [hp]; rfl)
    have c4' : w.cell? ⟨ad.block, ad.off + 4, none⟩ = some (.int .i64 x.rev) := by
      have e : ad.add 4 = ⟨ad.block, ad.off + 4, none⟩ := by unfold Addr.add; rw [if_neg (by decide)]
      rwa [e] at c4
    have hx := hr x (List.mem_filter.1 (show x ∈ opend s by rw [hp]; simp)).1
    have w1 := (i64_in2 (x.rev - 1) (by omega) (by omega)).1
    have w2 := (i64_in2 (x.rev - 1) (by omega) (by omega)).2
    have hci : (0 : Int) < (n : Int) := by omega
    clear H hm hn hp hc c4 hr
    go_enter Try.func45, Try.ntmps45
    go_wp2_with fail
    go_ret
    exact ⟨by rw [E.out]; rfl, rfl⟩
theorem orc_cells (s : Orc) : ∀ u ∈ ((opend s).map issMH).flatMap mhC, u.oneCell' = true := by
  intro u hu
  obtain ⟨x, _, hx⟩ := List.mem_flatMap.1 hu
  simp only [List.mem_cons, List.not_mem_nil, or_false] at hx
  rcases hx with rfl | rfl | rfl | rfl | rfl | rfl | rfl | rfl | rfl | rfl | rfl | rfl <;> rfl
set_option maxHeartbeats 3200000 in
theorem opending_run (h : OrcHw w0 w F o q s) (hl : (opend s).length ≤ 1000000) : Calls Try.prog 48 #[.pointer (some ⟨o, 0, none⟩)] w fun e w' =>
    ∃ (A : Option Addr) (c : Nat), e = .returned (.slice A (opend s).length c) ∧ OrcHw w0 w' (orcC A (opend s).length c s * F) o q s := by
  obtain ⟨mb, A, n, c, g, hm, hn, H⟩ := h
  have k2 := H.cellAt o 2 (v := .slice A n c) rfl
  have lo := H.ltB o
  have NL := Aside0.mk hn
  have MI := Aside0.mk hm
  have hn2 : n ≤ 1000000 := by omega
  have H1 := Aside0.mk (crow_blk (sz := 12) (n := 0) (cs := []) rfl (by unfold maxLen; omega) (fun u hu => by simp at hu) (H.alloc (.cells ([] : List Value).toArray 27 (0, 0))))
  have RD := Aside0.mk (show 0 < n → ∃ ad, A = some ad ∧ ∀ j u, (((opend s).map issMH).flatMap mhC)[j]? = some u → (w.alloc (.cells ([] : List Value).toArray 27 (0, 0))).cell? (ad.add j) = some u from fun hp => crow_reads (H1.out.at (orcC A n c s)) hp)
  have CL := Aside0.mk (show (((opend s).map issMH).flatMap mhC).length = n * 12 from crow_len (H.at (orcC A n c s)))
  clear H hm hn hl
  go_enter Try.func48, Try.ntmps48
  go_wp2_with (at_builtin; (refine crow_append (news := ((opend s).map issMH).flatMap mhC) (m := n) (c := c) rfl (.tmp 3) (.tmp 7) 47 (.agg #[.int .i64 0, .int .i64 0, .int .i64 0, .int .i64 0, .int .i64 0, .int .i64 0, .int .i64 0, .bool false, .slice none 0 0, .slice none 0 0, .slice none 0 0, .slice none 0 0]) 160 rfl Try.underlying47 Try.infoMsg rfl (by decide) rfl rfl H1.out CL.out (orc_cells s) RD.out (by decide) (by omega) ?_); intro A7 c7 w7 H7)
  go_ret
  have e1 : 0 + n = n := Nat.zero_add n
  refine ⟨A7, c7, by rw [← NL.out]; simp, mb, A, n, c, g, MI.out, NL.out, ?_⟩
  have h := H7.out
  rw [e1, List.nil_append] at h
  rw [← NL.out]
  exact (show Hw w0 w7 (orcC A7 n c7 s * (orcB o q mb A n c (olast s) * (mapHP Try.prog 2 mb g s.iss.length * (orcC A n c s * F)))) from h).as (by ac_rfl)
end
end Go.Proofs.Ytckdkbjobipniaa
