/-
  slices.Grow of nothing, slices.Concat of two and of three, laid.
-/
import Derived.Test.YtnghbfegijnolaaS0
import Derived.Test.YtnghbfegijnolaaPx0
import Derived.Lib.Hide
import Derived.Lib.AppendZeros
import Derived.WalkKit
import Derived.WalkSpells
import Derived.WalkLawsBesides
import Derived.RegionTactic
import Derived.ChangeAlike
import Derived.BigRegion
import Derived.Handy
import Derived.Lib.SmallJoins
import Derived.Lib.OthersKept
import Derived.Laws.RangeAny
namespace Go.Proofs.Ytnghbfegijnolaa.A
set_option linter.unusedVariables false
set_option linter.unusedSimpArgs false
open Go.RowKit Go.Proofs.YtnghbfegijnolaaW.PrintWords Go.Proofs.YtnghbfegijnolaaW.PrintLast Go.Proofs.YtnghbfegijnolaaW.PrintMore
open Go.Lib (hid)
set_option maxHeartbeats 1000000 in
set_option maxRecDepth 100000 in
theorem GrowK (n : Nat) (w0 w : World) (hB : Below w0.heap.size w0 w) (hn : n * 8 ≤ 140737488355328) :
    Calls Try.prog 62 #[.slice none 0 0, .int .i64 n] w fun e w' => ∃ v, e = .returned v ∧ (Kd.int .u64).R 23 w' w0.heap.size (fun k => w.heap.size ≤ k) v [] ∧ Below w0.heap.size w0 w' := by
  have h1 : ¬ ((n : Int) < 0) := by omega
  have h2 : wrap64 ((n : Int) - 0) = n := by unfold wrap64; omega
  rcases Nat.eq_zero_or_pos n with rfl | hp
  · clear h2
    go_enter Try.func62, Try.ntmps62
    go_wp2_with fail
    go_ret
    exact ⟨_, rfl, Kd.R_nil _ _ _ _ _, hB⟩
  · have h4 : 0 < (n : Int) := by omega
    have hz : ∀ ty, ∃ v1 w1, (Builtin.append_ #[25, 3] ty #[.slice none 0 0, .int .i64 (n : Int)]).run Try.prog w = .ok v1 w1 ∧ (Kd.int .u64).R 23 w1 w0.heap.size (fun k => w.heap.size ≤ k) v1 ([] ++ List.replicate (n : Int).toNat (0)) ∧ w.grownBy w1 (Value.slice none 0 0).ownBlock ∧ (v1.ownBlock = (Value.slice none 0 0).ownBlock ∨ ∃ b, v1.ownBlock = some b ∧ w.heap.size ≤ b) := fun ty =>
      Kd.R_zeros_run (P := Try.prog) (Kd.int .u64) w0.heap.size 25 3 ty 23 (.int .u64 0) 8 Try.underlying25 Try.underlying3 (by kernel_rfl) rfl (by decide) (by decide) _ [] (0) rfl (fun _ hk => hk) (Kd.R_nil _ _ _ _ _) .i64 n (by omega) (by simpa using hn) hB.size
    obtain ⟨v1, w1, hr, hR, hg, _⟩ := hz 25
    obtain ⟨A, c, rfl, hlc, _⟩ := Kd.R_reads hR
    have hT := hid (Kd.R_take hR (m := 0) (by omega))
    have hb := hid (hB.grown hg hB.size (fun k hk => by simp [Value.ownBlock] at hk))
    generalize hL : ([] ++ List.replicate (n : Int).toNat (0) : List _).length = m at hr hlc hT
    replace hL := hid hL
    clear hR hg hz
    replace hr := hid hr
    go_enter Try.func62, Try.ntmps62
    go_wp2_with (at_builtin; refine Lib.wpList_append_run _ rfl _ _ _ _ rfl _ _ rfl rfl _ _ hr.out ?_)
    go_ret
    exact ⟨_, rfl, by simpa using hT.out, hb.out⟩
set_option maxHeartbeats 1000000 in
set_option maxRecDepth 100000 in
theorem GrowI (n : Nat) (w0 w : World) (hB : Below w0.heap.size w0 w) (hn : n * 8 ≤ 140737488355328) :
    Calls Try.prog 61 #[.slice none 0 0, .int .i64 n] w fun e w' => ∃ v, e = .returned v ∧ (Kd.int .i64).R 3 w' w0.heap.size (fun k => w.heap.size ≤ k) v [] ∧ Below w0.heap.size w0 w' := by
  have h1 : ¬ ((n : Int) < 0) := by omega
  have h2 : wrap64 ((n : Int) - 0) = n := by unfold wrap64; omega
  rcases Nat.eq_zero_or_pos n with rfl | hp
  · clear h2
    go_enter Try.func61, Try.ntmps61
    go_wp2_with fail
    go_ret
    exact ⟨_, rfl, Kd.R_nil _ _ _ _ _, hB⟩
  · have h4 : 0 < (n : Int) := by omega
    have hz : ∀ ty, ∃ v1 w1, (Builtin.append_ #[27, 3] ty #[.slice none 0 0, .int .i64 (n : Int)]).run Try.prog w = .ok v1 w1 ∧ (Kd.int .i64).R 3 w1 w0.heap.size (fun k => w.heap.size ≤ k) v1 ([] ++ List.replicate (n : Int).toNat (0)) ∧ w.grownBy w1 (Value.slice none 0 0).ownBlock ∧ (v1.ownBlock = (Value.slice none 0 0).ownBlock ∨ ∃ b, v1.ownBlock = some b ∧ w.heap.size ≤ b) := fun ty =>
      Kd.R_zeros_run (P := Try.prog) (Kd.int .i64) w0.heap.size 27 3 ty 3 (.int .i64 0) 8 Try.underlying27 Try.underlying3 (by kernel_rfl) rfl (by decide) (by decide) _ [] (0) rfl (fun _ hk => hk) (Kd.R_nil _ _ _ _ _) .i64 n (by omega) (by simpa using hn) hB.size
    obtain ⟨v1, w1, hr, hR, hg, _⟩ := hz 27
    obtain ⟨A, c, rfl, hlc, _⟩ := Kd.R_reads hR
    have hT := hid (Kd.R_take hR (m := 0) (by omega))
    have hb := hid (hB.grown hg hB.size (fun k hk => by simp [Value.ownBlock] at hk))
    generalize hL : ([] ++ List.replicate (n : Int).toNat (0) : List _).length = m at hr hlc hT
    replace hL := hid hL
    clear hR hg hz
    replace hr := hid hr
    go_enter Try.func61, Try.ntmps61
    go_wp2_with (at_builtin; refine Lib.wpList_append_run _ rfl _ _ _ _ rfl _ _ rfl rfl _ _ hr.out ?_)
    go_ret
    exact ⟨_, rfl, by simpa using hT.out, hb.out⟩
set_option maxHeartbeats 1000000 in
set_option maxRecDepth 100000 in
theorem GrowS (n : Nat) (w0 w : World) (hB : Below w0.heap.size w0 w) (hn : n * 16 ≤ 140737488355328) :
    Calls Try.prog 60 #[.slice none 0 0, .int .i64 n] w fun e w' => ∃ v, e = .returned v ∧ (Kd.string).R 9 w' w0.heap.size (fun k => w.heap.size ≤ k) v [] ∧ Below w0.heap.size w0 w' := by
  have h1 : ¬ ((n : Int) < 0) := by omega
  have h2 : wrap64 ((n : Int) - 0) = n := by unfold wrap64; omega
  rcases Nat.eq_zero_or_pos n with rfl | hp
  · clear h2
    go_enter Try.func60, Try.ntmps60
    go_wp2_with fail
    go_ret
    exact ⟨_, rfl, Kd.R_nil _ _ _ _ _, hB⟩
  · have h4 : 0 < (n : Int) := by omega
    have hz : ∀ ty, ∃ v1 w1, (Builtin.append_ #[26, 3] ty #[.slice none 0 0, .int .i64 (n : Int)]).run Try.prog w = .ok v1 w1 ∧ (Kd.string).R 9 w1 w0.heap.size (fun k => w.heap.size ≤ k) v1 ([] ++ List.replicate (n : Int).toNat ((⟨#[]⟩ : ByteArray))) ∧ w.grownBy w1 (Value.slice none 0 0).ownBlock ∧ (v1.ownBlock = (Value.slice none 0 0).ownBlock ∨ ∃ b, v1.ownBlock = some b ∧ w.heap.size ≤ b) := fun ty =>
      Kd.R_zeros_run (P := Try.prog) (Kd.string) w0.heap.size 26 3 ty 9 (.string ⟨#[]⟩) 16 Try.underlying26 Try.underlying3 (by kernel_rfl) rfl (by decide) (by decide) _ [] ((⟨#[]⟩ : ByteArray)) rfl (fun _ hk => hk) (Kd.R_nil _ _ _ _ _) .i64 n (by omega) (by simpa using hn) hB.size
    obtain ⟨v1, w1, hr, hR, hg, _⟩ := hz 26
    obtain ⟨A, c, rfl, hlc, _⟩ := Kd.R_reads hR
    have hT := hid (Kd.R_take hR (m := 0) (by omega))
    have hb := hid (hB.grown hg hB.size (fun k hk => by simp [Value.ownBlock] at hk))
    generalize hL : ([] ++ List.replicate (n : Int).toNat ((⟨#[]⟩ : ByteArray)) : List _).length = m at hr hlc hT
    replace hL := hid hL
    clear hR hg hz
    replace hr := hid hr
    go_enter Try.func60, Try.ntmps60
    go_wp2_with (at_builtin; refine Lib.wpList_append_run _ rfl _ _ _ _ rfl _ _ rfl rfl _ _ hr.out ?_)
    go_ret
    exact ⟨_, rfl, by simpa using hT.out, hb.out⟩
set_option maxHeartbeats 1000000 in
set_option maxRecDepth 100000 in
theorem ConcatK3 (l1 l2 l3 : List Int) (A1 : Option Addr) (c1 : Nat) (A2 : Option Addr) (c2 : Nat) (A3 : Option Addr) (c3 : Nat) (g : Nat) (w : World) (hx : w.heap[g]? = some (.cells #[.slice A1 l1.length c1, .slice A2 l2.length c2, .slice A3 l3.length c3] 25 (0, 0))) (H1 : (Kd.int .u64).C w A1 l1.length l1) (H2 : (Kd.int .u64).C w A2 l2.length l2) (H3 : (Kd.int .u64).C w A3 l3.length l3) (hn : (l1.length + l2.length + l3.length) * 8 ≤ 140737488355328) :
    Calls Try.prog 52 #[.slice (some ⟨g, 0, none⟩) 3 3] w fun e w' => ∃ A c, e = .returned (.slice A (l1 ++ l2 ++ l3).length c) ∧ (l1 ++ l2 ++ l3).length ≤ c ∧ (Kd.int .u64).C w' A (l1 ++ l2 ++ l3).length (l1 ++ l2 ++ l3) ∧ Below w.heap.size w w' ∧ (∀ ad, A = some ad → w.heap.size ≤ ad.block) := by
  obtain ⟨s1, hs1⟩ : ∃ s : Nat, s = l1.length := ⟨_, rfl⟩
  obtain ⟨s2, hs2⟩ : ∃ s : Nat, s = l1.length + l2.length := ⟨_, rfl⟩
  obtain ⟨s3, hs3⟩ : ∃ s : Nat, s = l1.length + l2.length + l3.length := ⟨_, rfl⟩
  have y1 : wrap64 (l1.length : Int) = (s1 : Int) := by unfold wrap64; omega
  have y2 : wrap64 ((s1 : Int) + l2.length) = (s2 : Int) := by unfold wrap64; omega
  have y3 : wrap64 ((s2 : Int) + l3.length) = (s3 : Int) := by unfold wrap64; omega
  have p1 : ¬ ((s1 : Int) < 0) := by omega
  have p2 : ¬ ((s2 : Int) < 0) := by omega
  have p3 : ¬ ((s3 : Int) < 0) := by omega
  have hG := hid (GrowK s3 w w (Below.refl _ _) (by omega))
  replace hs1 := hid hs1
  replace hs2 := hid hs2
  replace hs3 := hid hs3
  replace hx := hid hx
  have d0 : w.cell? ⟨g, 0, none⟩ = some (.slice A1 l1.length c1) := (blk_cell hx.out 0).trans rfl
  have d1 : w.cell? ⟨g, 1, none⟩ = some (.slice A2 l2.length c2) := (blk_cell hx.out 1).trans rfl
  have d2 : w.cell? ⟨g, 2, none⟩ = some (.slice A3 l3.length c3) := (blk_cell hx.out 2).trans rfl
  replace H1 := hid H1
  replace H2 := hid H2
  replace H3 := hid H3
  have hn0 := hid hn
  clear hn
  go_enter Try.func52, Try.ntmps52
  go_wp2_with fail
  go_loopg [3, 11] 3 (fun g sz i wr => Hid (wr = w) ∧ ((g = 3 ∧ sz = .int .i64 0 ∧ i = .int .i64 0) ∨ (g = 2 ∧ sz = .int .i64 (s1 : Int) ∧ i = .int .i64 1) ∨ (g = 1 ∧ sz = .int .i64 (s2 : Int) ∧ i = .int .i64 2) ∨ (g = 0 ∧ sz = .int .i64 (s3 : Int) ∧ i = .int .i64 3)))
  case atStart => exact ⟨hid rfl, .inl ⟨rfl, rfl, rfl⟩⟩
  case round =>
    obtain ⟨hwr, hcase⟩ := hrel
    rw [hwr.out]
    rcases hcase with ⟨rfl, rfl, rfl⟩ | ⟨rfl, rfl, rfl⟩ | ⟨rfl, rfl, rfl⟩ | ⟨rfl, rfl, rfl⟩
    · go_wp2_with fail
      go_roundg 2
      case measure => omega
      case rel => exact ⟨hid rfl, .inr (.inl ⟨by first | rfl | trivial, by rw [y1], by first | rfl | trivial⟩)⟩
    · go_wp2_with fail
      go_roundg 1
      case measure => omega
      case rel => exact ⟨hid rfl, .inr (.inr (.inl ⟨by first | rfl | trivial, by rw [y2], by first | rfl | trivial⟩))⟩
    · go_wp2_with fail
      go_roundg 0
      case measure => omega
      case rel => exact ⟨hid rfl, .inr (.inr (.inr (⟨by first | rfl | trivial, by rw [y3], by first | rfl | trivial⟩)))⟩
    · clear d0 d1 d2 y1 y2 y3 p1 p2 p3
      go_wp2_with (first | ((with_reducible refine Calls.mono hG.out ?_); rintro e w1 ⟨v, rfl, hR, hb⟩; replace hR := hid hR; replace hb := hid hb))
      go_loopg [6, 27] 3 (fun g v i wr => Hid (Below w.heap.size w wr) ∧ ((g = 3 ∧ i = .int .i64 0 ∧ Hid ((Kd.int .u64).R 23 wr w.heap.size (fun k => w.heap.size ≤ k) v ([]))) ∨ (g = 2 ∧ i = .int .i64 1 ∧ Hid ((Kd.int .u64).R 23 wr w.heap.size (fun k => w.heap.size ≤ k) v (l1))) ∨ (g = 1 ∧ i = .int .i64 2 ∧ Hid ((Kd.int .u64).R 23 wr w.heap.size (fun k => w.heap.size ≤ k) v (l1 ++ l2))) ∨ (g = 0 ∧ i = .int .i64 3 ∧ Hid ((Kd.int .u64).R 23 wr w.heap.size (fun k => w.heap.size ≤ k) v (l1 ++ l2 ++ l3)))))
      case atStart => exact ⟨hb, .inl ⟨rfl, rfl, hR⟩⟩
      case round =>
        clear hR hb hG
        obtain ⟨hbw, hcase⟩ := hrel
        have hx1 := hid ((hbw.out.block g (blk_lt hx.out)).trans hx.out)
        rcases hcase with ⟨rfl, rfl, hR⟩ | ⟨rfl, rfl, hR⟩ | ⟨rfl, rfl, hR⟩ | ⟨rfl, rfl, hR⟩
        · have dd : wr.cell? ⟨g, 0, none⟩ = some (.slice A1 l1.length c1) := (blk_cell hx1.out 0).trans rfl
          have HC := hid (Kd.C_below H1.out hbw.out)
          have hl : Hid ((([] : List Int).length + l1.length) * 8 ≤ 140737488355328) := hid (by have := hn0.out; (try simp only [List.length_append, List.length_nil]); omega)
          go_wp2_with (at_builtin; refine Kd.R_append_row (Value.int .u64) (0 : Int) (w0 := w) w.heap.size rfl (.tmp 31) (.tmp 32) 25 23 (.int .u64 0) 8 rfl Try.underlying25 (by kernel_rfl) rfl (by decide) _ _ _ _ _ _ _ rfl rfl (fun k hk => Nat.le_trans hbw.out.size hk) hR.out HC.out hbw.out hbw.out.size hl.out ?_; intro v1 w2 hR1 hb1 _ _; replace hR1 := hid hR1; replace hb1 := hid hb1)
          replace hR1 := hid (by have h := hR1.out; rw [List.nil_append] at h; exact h)
          go_roundg 2
          case measure => omega
          case rel => exact ⟨hb1, .inr (.inl ⟨by first | rfl | trivial, by first | rfl | trivial, hR1⟩)⟩
        · have dd : wr.cell? ⟨g, 1, none⟩ = some (.slice A2 l2.length c2) := (blk_cell hx1.out 1).trans rfl
          have HC := hid (Kd.C_below H2.out hbw.out)
          have hl : Hid (((l1 : List Int).length + l2.length) * 8 ≤ 140737488355328) := hid (by have := hn0.out; (try simp only [List.length_append, List.length_nil]); omega)
          go_wp2_with (at_builtin; refine Kd.R_append_row (Value.int .u64) (0 : Int) (w0 := w) w.heap.size rfl (.tmp 31) (.tmp 32) 25 23 (.int .u64 0) 8 rfl Try.underlying25 (by kernel_rfl) rfl (by decide) _ _ _ _ _ _ _ rfl rfl (fun k hk => Nat.le_trans hbw.out.size hk) hR.out HC.out hbw.out hbw.out.size hl.out ?_; intro v1 w2 hR1 hb1 _ _; replace hR1 := hid hR1; replace hb1 := hid hb1)
          go_roundg 1
          case measure => omega
          case rel => exact ⟨hb1, .inr (.inr (.inl ⟨by first | rfl | trivial, by first | rfl | trivial, hR1⟩))⟩
        · have dd : wr.cell? ⟨g, 2, none⟩ = some (.slice A3 l3.length c3) := (blk_cell hx1.out 2).trans rfl
          have HC := hid (Kd.C_below H3.out hbw.out)
          have hl : Hid (((l1 ++ l2 : List Int).length + l3.length) * 8 ≤ 140737488355328) := hid (by have := hn0.out; (try simp only [List.length_append, List.length_nil]); omega)
          go_wp2_with (at_builtin; refine Kd.R_append_row (Value.int .u64) (0 : Int) (w0 := w) w.heap.size rfl (.tmp 31) (.tmp 32) 25 23 (.int .u64 0) 8 rfl Try.underlying25 (by kernel_rfl) rfl (by decide) _ _ _ _ _ _ _ rfl rfl (fun k hk => Nat.le_trans hbw.out.size hk) hR.out HC.out hbw.out hbw.out.size hl.out ?_; intro v1 w2 hR1 hb1 _ _; replace hR1 := hid hR1; replace hb1 := hid hb1)
          go_roundg 0
          case measure => omega
          case rel => exact ⟨hb1, .inr (.inr (.inr (⟨by first | rfl | trivial, by first | rfl | trivial, hR1⟩)))⟩
        · obtain ⟨A, c, rfl, hlc, hCC⟩ := Kd.R_reads hR.out
          replace hCC := hid hCC
          have hfr : Hid (∀ ad, A = some ad → w.heap.size ≤ ad.block) := hid (fun ad e => hR.out.1 ad.block (by subst e; rfl))
          clear hR
          generalize hLL : (l1 ++ l2 ++ l3).length = LL at hlc hCC ⊢
          replace hLL := hid hLL
          replace hlc := hid hlc
          go_wp2_with fail
          go_ret
          have e := hLL.out
          subst e
          exact ⟨_, _, rfl, hlc.out, hCC.out, hbw.out, hfr.out⟩
set_option maxHeartbeats 1000000 in
set_option maxRecDepth 100000 in
theorem ConcatI3 (l1 l2 l3 : List Int) (A1 : Option Addr) (c1 : Nat) (A2 : Option Addr) (c2 : Nat) (A3 : Option Addr) (c3 : Nat) (g : Nat) (w : World) (hx : w.heap[g]? = some (.cells #[.slice A1 l1.length c1, .slice A2 l2.length c2, .slice A3 l3.length c3] 27 (0, 0))) (H1 : (Kd.int .i64).C w A1 l1.length l1) (H2 : (Kd.int .i64).C w A2 l2.length l2) (H3 : (Kd.int .i64).C w A3 l3.length l3) (hn : (l1.length + l2.length + l3.length) * 8 ≤ 140737488355328) :
    Calls Try.prog 51 #[.slice (some ⟨g, 0, none⟩) 3 3] w fun e w' => ∃ A c, e = .returned (.slice A (l1 ++ l2 ++ l3).length c) ∧ (l1 ++ l2 ++ l3).length ≤ c ∧ (Kd.int .i64).C w' A (l1 ++ l2 ++ l3).length (l1 ++ l2 ++ l3) ∧ Below w.heap.size w w' ∧ (∀ ad, A = some ad → w.heap.size ≤ ad.block) := by
  obtain ⟨s1, hs1⟩ : ∃ s : Nat, s = l1.length := ⟨_, rfl⟩
  obtain ⟨s2, hs2⟩ : ∃ s : Nat, s = l1.length + l2.length := ⟨_, rfl⟩
  obtain ⟨s3, hs3⟩ : ∃ s : Nat, s = l1.length + l2.length + l3.length := ⟨_, rfl⟩
  have y1 : wrap64 (l1.length : Int) = (s1 : Int) := by unfold wrap64; omega
  have y2 : wrap64 ((s1 : Int) + l2.length) = (s2 : Int) := by unfold wrap64; omega
  have y3 : wrap64 ((s2 : Int) + l3.length) = (s3 : Int) := by unfold wrap64; omega
  have p1 : ¬ ((s1 : Int) < 0) := by omega
  have p2 : ¬ ((s2 : Int) < 0) := by omega
  have p3 : ¬ ((s3 : Int) < 0) := by omega
  have hG := hid (GrowI s3 w w (Below.refl _ _) (by omega))
  replace hs1 := hid hs1
  replace hs2 := hid hs2
  replace hs3 := hid hs3
  replace hx := hid hx
  have d0 : w.cell? ⟨g, 0, none⟩ = some (.slice A1 l1.length c1) := (blk_cell hx.out 0).trans rfl
  have d1 : w.cell? ⟨g, 1, none⟩ = some (.slice A2 l2.length c2) := (blk_cell hx.out 1).trans rfl
  have d2 : w.cell? ⟨g, 2, none⟩ = some (.slice A3 l3.length c3) := (blk_cell hx.out 2).trans rfl
  replace H1 := hid H1
  replace H2 := hid H2
  replace H3 := hid H3
  have hn0 := hid hn
  clear hn
  go_enter Try.func51, Try.ntmps51
  go_wp2_with fail
  go_loopg [3, 11] 3 (fun g sz i wr => Hid (wr = w) ∧ ((g = 3 ∧ sz = .int .i64 0 ∧ i = .int .i64 0) ∨ (g = 2 ∧ sz = .int .i64 (s1 : Int) ∧ i = .int .i64 1) ∨ (g = 1 ∧ sz = .int .i64 (s2 : Int) ∧ i = .int .i64 2) ∨ (g = 0 ∧ sz = .int .i64 (s3 : Int) ∧ i = .int .i64 3)))
  case atStart => exact ⟨hid rfl, .inl ⟨rfl, rfl, rfl⟩⟩
  case round =>
    obtain ⟨hwr, hcase⟩ := hrel
    rw [hwr.out]
    rcases hcase with ⟨rfl, rfl, rfl⟩ | ⟨rfl, rfl, rfl⟩ | ⟨rfl, rfl, rfl⟩ | ⟨rfl, rfl, rfl⟩
    · go_wp2_with fail
      go_roundg 2
      case measure => omega
      case rel => exact ⟨hid rfl, .inr (.inl ⟨by first | rfl | trivial, by rw [y1], by first | rfl | trivial⟩)⟩
    · go_wp2_with fail
      go_roundg 1
      case measure => omega
      case rel => exact ⟨hid rfl, .inr (.inr (.inl ⟨by first | rfl | trivial, by rw [y2], by first | rfl | trivial⟩))⟩
    · go_wp2_with fail
      go_roundg 0
      case measure => omega
      case rel => exact ⟨hid rfl, .inr (.inr (.inr (⟨by first | rfl | trivial, by rw [y3], by first | rfl | trivial⟩)))⟩
    · clear d0 d1 d2 y1 y2 y3 p1 p2 p3
      go_wp2_with (first | ((with_reducible refine Calls.mono hG.out ?_); rintro e w1 ⟨v, rfl, hR, hb⟩; replace hR := hid hR; replace hb := hid hb))
      go_loopg [6, 27] 3 (fun g v i wr => Hid (Below w.heap.size w wr) ∧ ((g = 3 ∧ i = .int .i64 0 ∧ Hid ((Kd.int .i64).R 3 wr w.heap.size (fun k => w.heap.size ≤ k) v ([]))) ∨ (g = 2 ∧ i = .int .i64 1 ∧ Hid ((Kd.int .i64).R 3 wr w.heap.size (fun k => w.heap.size ≤ k) v (l1))) ∨ (g = 1 ∧ i = .int .i64 2 ∧ Hid ((Kd.int .i64).R 3 wr w.heap.size (fun k => w.heap.size ≤ k) v (l1 ++ l2))) ∨ (g = 0 ∧ i = .int .i64 3 ∧ Hid ((Kd.int .i64).R 3 wr w.heap.size (fun k => w.heap.size ≤ k) v (l1 ++ l2 ++ l3)))))
      case atStart => exact ⟨hb, .inl ⟨rfl, rfl, hR⟩⟩
      case round =>
        clear hR hb hG
        obtain ⟨hbw, hcase⟩ := hrel
        have hx1 := hid ((hbw.out.block g (blk_lt hx.out)).trans hx.out)
        rcases hcase with ⟨rfl, rfl, hR⟩ | ⟨rfl, rfl, hR⟩ | ⟨rfl, rfl, hR⟩ | ⟨rfl, rfl, hR⟩
        · have dd : wr.cell? ⟨g, 0, none⟩ = some (.slice A1 l1.length c1) := (blk_cell hx1.out 0).trans rfl
          have HC := hid (Kd.C_below H1.out hbw.out)
          have hl : Hid ((([] : List Int).length + l1.length) * 8 ≤ 140737488355328) := hid (by have := hn0.out; (try simp only [List.length_append, List.length_nil]); omega)
          go_wp2_with (at_builtin; refine Kd.R_append_row (Value.int .i64) (0 : Int) (w0 := w) w.heap.size rfl (.tmp 31) (.tmp 32) 27 3 (.int .i64 0) 8 rfl Try.underlying27 (by kernel_rfl) rfl (by decide) _ _ _ _ _ _ _ rfl rfl (fun k hk => Nat.le_trans hbw.out.size hk) hR.out HC.out hbw.out hbw.out.size hl.out ?_; intro v1 w2 hR1 hb1 _ _; replace hR1 := hid hR1; replace hb1 := hid hb1)
          replace hR1 := hid (by have h := hR1.out; rw [List.nil_append] at h; exact h)
          go_roundg 2
          case measure => omega
          case rel => exact ⟨hb1, .inr (.inl ⟨by first | rfl | trivial, by first | rfl | trivial, hR1⟩)⟩
        · have dd : wr.cell? ⟨g, 1, none⟩ = some (.slice A2 l2.length c2) := (blk_cell hx1.out 1).trans rfl
          have HC := hid (Kd.C_below H2.out hbw.out)
          have hl : Hid (((l1 : List Int).length + l2.length) * 8 ≤ 140737488355328) := hid (by have := hn0.out; (try simp only [List.length_append, List.length_nil]); omega)
          go_wp2_with (at_builtin; refine Kd.R_append_row (Value.int .i64) (0 : Int) (w0 := w) w.heap.size rfl (.tmp 31) (.tmp 32) 27 3 (.int .i64 0) 8 rfl Try.underlying27 (by kernel_rfl) rfl (by decide) _ _ _ _ _ _ _ rfl rfl (fun k hk => Nat.le_trans hbw.out.size hk) hR.out HC.out hbw.out hbw.out.size hl.out ?_; intro v1 w2 hR1 hb1 _ _; replace hR1 := hid hR1; replace hb1 := hid hb1)
          go_roundg 1
          case measure => omega
          case rel => exact ⟨hb1, .inr (.inr (.inl ⟨by first | rfl | trivial, by first | rfl | trivial, hR1⟩))⟩
        · have dd : wr.cell? ⟨g, 2, none⟩ = some (.slice A3 l3.length c3) := (blk_cell hx1.out 2).trans rfl
          have HC := hid (Kd.C_below H3.out hbw.out)
          have hl : Hid (((l1 ++ l2 : List Int).length + l3.length) * 8 ≤ 140737488355328) := hid (by have := hn0.out; (try simp only [List.length_append, List.length_nil]); omega)
          go_wp2_with (at_builtin; refine Kd.R_append_row (Value.int .i64) (0 : Int) (w0 := w) w.heap.size rfl (.tmp 31) (.tmp 32) 27 3 (.int .i64 0) 8 rfl Try.underlying27 (by kernel_rfl) rfl (by decide) _ _ _ _ _ _ _ rfl rfl (fun k hk => Nat.le_trans hbw.out.size hk) hR.out HC.out hbw.out hbw.out.size hl.out ?_; intro v1 w2 hR1 hb1 _ _; replace hR1 := hid hR1; replace hb1 := hid hb1)
          go_roundg 0
          case measure => omega
          case rel => exact ⟨hb1, .inr (.inr (.inr (⟨by first | rfl | trivial, by first | rfl | trivial, hR1⟩)))⟩
        · obtain ⟨A, c, rfl, hlc, hCC⟩ := Kd.R_reads hR.out
          replace hCC := hid hCC
          have hfr : Hid (∀ ad, A = some ad → w.heap.size ≤ ad.block) := hid (fun ad e => hR.out.1 ad.block (by subst e; rfl))
          clear hR
          generalize hLL : (l1 ++ l2 ++ l3).length = LL at hlc hCC ⊢
          replace hLL := hid hLL
          replace hlc := hid hlc
          go_wp2_with fail
          go_ret
          have e := hLL.out
          subst e
          exact ⟨_, _, rfl, hlc.out, hCC.out, hbw.out, hfr.out⟩
set_option maxHeartbeats 1000000 in
set_option maxRecDepth 100000 in
theorem ConcatS3 (l1 l2 l3 : List ByteArray) (A1 : Option Addr) (c1 : Nat) (A2 : Option Addr) (c2 : Nat) (A3 : Option Addr) (c3 : Nat) (g : Nat) (w : World) (hx : w.heap[g]? = some (.cells #[.slice A1 l1.length c1, .slice A2 l2.length c2, .slice A3 l3.length c3] 26 (0, 0))) (H1 : (Kd.string).C w A1 l1.length l1) (H2 : (Kd.string).C w A2 l2.length l2) (H3 : (Kd.string).C w A3 l3.length l3) (hn : (l1.length + l2.length + l3.length) * 16 ≤ 140737488355328) :
    Calls Try.prog 50 #[.slice (some ⟨g, 0, none⟩) 3 3] w fun e w' => ∃ A c, e = .returned (.slice A (l1 ++ l2 ++ l3).length c) ∧ (l1 ++ l2 ++ l3).length ≤ c ∧ (Kd.string).C w' A (l1 ++ l2 ++ l3).length (l1 ++ l2 ++ l3) ∧ Below w.heap.size w w' ∧ (∀ ad, A = some ad → w.heap.size ≤ ad.block) := by
  obtain ⟨s1, hs1⟩ : ∃ s : Nat, s = l1.length := ⟨_, rfl⟩
  obtain ⟨s2, hs2⟩ : ∃ s : Nat, s = l1.length + l2.length := ⟨_, rfl⟩
  obtain ⟨s3, hs3⟩ : ∃ s : Nat, s = l1.length + l2.length + l3.length := ⟨_, rfl⟩
  have y1 : wrap64 (l1.length : Int) = (s1 : Int) := by unfold wrap64; omega
  have y2 : wrap64 ((s1 : Int) + l2.length) = (s2 : Int) := by unfold wrap64; omega
  have y3 : wrap64 ((s2 : Int) + l3.length) = (s3 : Int) := by unfold wrap64; omega
  have p1 : ¬ ((s1 : Int) < 0) := by omega
  have p2 : ¬ ((s2 : Int) < 0) := by omega
  have p3 : ¬ ((s3 : Int) < 0) := by omega
  have hG := hid (GrowS s3 w w (Below.refl _ _) (by omega))
  replace hs1 := hid hs1
  replace hs2 := hid hs2
  replace hs3 := hid hs3
  replace hx := hid hx
  have d0 : w.cell? ⟨g, 0, none⟩ = some (.slice A1 l1.length c1) := (blk_cell hx.out 0).trans rfl
  have d1 : w.cell? ⟨g, 1, none⟩ = some (.slice A2 l2.length c2) := (blk_cell hx.out 1).trans rfl
  have d2 : w.cell? ⟨g, 2, none⟩ = some (.slice A3 l3.length c3) := (blk_cell hx.out 2).trans rfl
  replace H1 := hid H1
  replace H2 := hid H2
  replace H3 := hid H3
  have hn0 := hid hn
  clear hn
  go_enter Try.func50, Try.ntmps50
  go_wp2_with fail
  go_loopg [3, 11] 3 (fun g sz i wr => Hid (wr = w) ∧ ((g = 3 ∧ sz = .int .i64 0 ∧ i = .int .i64 0) ∨ (g = 2 ∧ sz = .int .i64 (s1 : Int) ∧ i = .int .i64 1) ∨ (g = 1 ∧ sz = .int .i64 (s2 : Int) ∧ i = .int .i64 2) ∨ (g = 0 ∧ sz = .int .i64 (s3 : Int) ∧ i = .int .i64 3)))
  case atStart => exact ⟨hid rfl, .inl ⟨rfl, rfl, rfl⟩⟩
  case round =>
    obtain ⟨hwr, hcase⟩ := hrel
    rw [hwr.out]
    rcases hcase with ⟨rfl, rfl, rfl⟩ | ⟨rfl, rfl, rfl⟩ | ⟨rfl, rfl, rfl⟩ | ⟨rfl, rfl, rfl⟩
    · go_wp2_with fail
      go_roundg 2
      case measure => omega
      case rel => exact ⟨hid rfl, .inr (.inl ⟨by first | rfl | trivial, by rw [y1], by first | rfl | trivial⟩)⟩
    · go_wp2_with fail
      go_roundg 1
      case measure => omega
      case rel => exact ⟨hid rfl, .inr (.inr (.inl ⟨by first | rfl | trivial, by rw [y2], by first | rfl | trivial⟩))⟩
    · go_wp2_with fail
      go_roundg 0
      case measure => omega
      case rel => exact ⟨hid rfl, .inr (.inr (.inr (⟨by first | rfl | trivial, by rw [y3], by first | rfl | trivial⟩)))⟩
    · clear d0 d1 d2 y1 y2 y3 p1 p2 p3
      go_wp2_with (first | ((with_reducible refine Calls.mono hG.out ?_); rintro e w1 ⟨v, rfl, hR, hb⟩; replace hR := hid hR; replace hb := hid hb))
      go_loopg [6, 27] 3 (fun g v i wr => Hid (Below w.heap.size w wr) ∧ ((g = 3 ∧ i = .int .i64 0 ∧ Hid ((Kd.string).R 9 wr w.heap.size (fun k => w.heap.size ≤ k) v ([]))) ∨ (g = 2 ∧ i = .int .i64 1 ∧ Hid ((Kd.string).R 9 wr w.heap.size (fun k => w.heap.size ≤ k) v (l1))) ∨ (g = 1 ∧ i = .int .i64 2 ∧ Hid ((Kd.string).R 9 wr w.heap.size (fun k => w.heap.size ≤ k) v (l1 ++ l2))) ∨ (g = 0 ∧ i = .int .i64 3 ∧ Hid ((Kd.string).R 9 wr w.heap.size (fun k => w.heap.size ≤ k) v (l1 ++ l2 ++ l3)))))
      case atStart => exact ⟨hb, .inl ⟨rfl, rfl, hR⟩⟩
      case round =>
        clear hR hb hG
        obtain ⟨hbw, hcase⟩ := hrel
        have hx1 := hid ((hbw.out.block g (blk_lt hx.out)).trans hx.out)
        rcases hcase with ⟨rfl, rfl, hR⟩ | ⟨rfl, rfl, hR⟩ | ⟨rfl, rfl, hR⟩ | ⟨rfl, rfl, hR⟩
        · have dd : wr.cell? ⟨g, 0, none⟩ = some (.slice A1 l1.length c1) := (blk_cell hx1.out 0).trans rfl
          have HC := hid (Kd.C_below H1.out hbw.out)
          have hl : Hid ((([] : List ByteArray).length + l1.length) * 16 ≤ 140737488355328) := hid (by have := hn0.out; (try simp only [List.length_append, List.length_nil]); omega)
          go_wp2_with (at_builtin; refine Kd.R_append_row Value.string (⟨#[]⟩ : ByteArray) (w0 := w) w.heap.size rfl (.tmp 31) (.tmp 32) 26 9 (.string ⟨#[]⟩) 16 rfl Try.underlying26 (by kernel_rfl) rfl (by decide) _ _ _ _ _ _ _ rfl rfl (fun k hk => Nat.le_trans hbw.out.size hk) hR.out HC.out hbw.out hbw.out.size hl.out ?_; intro v1 w2 hR1 hb1 _ _; replace hR1 := hid hR1; replace hb1 := hid hb1)
          replace hR1 := hid (by have h := hR1.out; rw [List.nil_append] at h; exact h)
          go_roundg 2
          case measure => omega
          case rel => exact ⟨hb1, .inr (.inl ⟨by first | rfl | trivial, by first | rfl | trivial, hR1⟩)⟩
        · have dd : wr.cell? ⟨g, 1, none⟩ = some (.slice A2 l2.length c2) := (blk_cell hx1.out 1).trans rfl
          have HC := hid (Kd.C_below H2.out hbw.out)
          have hl : Hid (((l1 : List ByteArray).length + l2.length) * 16 ≤ 140737488355328) := hid (by have := hn0.out; (try simp only [List.length_append, List.length_nil]); omega)
          go_wp2_with (at_builtin; refine Kd.R_append_row Value.string (⟨#[]⟩ : ByteArray) (w0 := w) w.heap.size rfl (.tmp 31) (.tmp 32) 26 9 (.string ⟨#[]⟩) 16 rfl Try.underlying26 (by kernel_rfl) rfl (by decide) _ _ _ _ _ _ _ rfl rfl (fun k hk => Nat.le_trans hbw.out.size hk) hR.out HC.out hbw.out hbw.out.size hl.out ?_; intro v1 w2 hR1 hb1 _ _; replace hR1 := hid hR1; replace hb1 := hid hb1)
          go_roundg 1
          case measure => omega
          case rel => exact ⟨hb1, .inr (.inr (.inl ⟨by first | rfl | trivial, by first | rfl | trivial, hR1⟩))⟩
        · have dd : wr.cell? ⟨g, 2, none⟩ = some (.slice A3 l3.length c3) := (blk_cell hx1.out 2).trans rfl
          have HC := hid (Kd.C_below H3.out hbw.out)
          have hl : Hid (((l1 ++ l2 : List ByteArray).length + l3.length) * 16 ≤ 140737488355328) := hid (by have := hn0.out; (try simp only [List.length_append, List.length_nil]); omega)
          go_wp2_with (at_builtin; refine Kd.R_append_row Value.string (⟨#[]⟩ : ByteArray) (w0 := w) w.heap.size rfl (.tmp 31) (.tmp 32) 26 9 (.string ⟨#[]⟩) 16 rfl Try.underlying26 (by kernel_rfl) rfl (by decide) _ _ _ _ _ _ _ rfl rfl (fun k hk => Nat.le_trans hbw.out.size hk) hR.out HC.out hbw.out hbw.out.size hl.out ?_; intro v1 w2 hR1 hb1 _ _; replace hR1 := hid hR1; replace hb1 := hid hb1)
          go_roundg 0
          case measure => omega
          case rel => exact ⟨hb1, .inr (.inr (.inr (⟨by first | rfl | trivial, by first | rfl | trivial, hR1⟩)))⟩
        · obtain ⟨A, c, rfl, hlc, hCC⟩ := Kd.R_reads hR.out
          replace hCC := hid hCC
          have hfr : Hid (∀ ad, A = some ad → w.heap.size ≤ ad.block) := hid (fun ad e => hR.out.1 ad.block (by subst e; rfl))
          clear hR
          generalize hLL : (l1 ++ l2 ++ l3).length = LL at hlc hCC ⊢
          replace hLL := hid hLL
          replace hlc := hid hlc
          go_wp2_with fail
          go_ret
          have e := hLL.out
          subst e
          exact ⟨_, _, rfl, hlc.out, hCC.out, hbw.out, hfr.out⟩
end Go.Proofs.Ytnghbfegijnolaa.A
