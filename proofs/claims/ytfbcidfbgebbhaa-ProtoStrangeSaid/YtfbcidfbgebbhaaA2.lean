/-
  A Quota among the requests: what it is as one whose fields can be got at.
-/
import Derived.Test.YtfbcidfbgebbhaaA1
namespace Go.Proofs.Ytfbcidfbgebbhaa.A
set_option linter.unusedVariables false
set_option linter.unusedSimpArgs false
open Go.RowKit Go.Proofs.YtfbcidfbgebbhaaW.PrintWords Go.Proofs.YtfbcidfbgebbhaaW.PrintLast Go.Proofs.YtfbcidfbgebbhaaW.PrintMore
open Go.Lib (hid)
theorem as_noQ_61 : ∃ z, ∀ W : World, (Instr.typeAssert (.iface 65 (.agg #[])) 20 61 true).run Try.prog W = .ok (.tuple #[z, .bool false]) W := ⟨((Try.prog.info? 61).bind (·.zero)).getD undef, fun W => by kernel_rfl⟩
theorem as_noQ_48 : ∃ z, ∀ W : World, (Instr.typeAssert (.iface 65 (.agg #[])) 20 48 true).run Try.prog W = .ok (.tuple #[z, .bool false]) W := ⟨((Try.prog.info? 48).bind (·.zero)).getD undef, fun W => by kernel_rfl⟩
theorem as_noQ_50 : ∃ z, ∀ W : World, (Instr.typeAssert (.iface 65 (.agg #[])) 20 50 true).run Try.prog W = .ok (.tuple #[z, .bool false]) W := ⟨((Try.prog.info? 50).bind (·.zero)).getD undef, fun W => by kernel_rfl⟩
theorem as_noQ_69 : ∃ z, ∀ W : World, (Instr.typeAssert (.iface 65 (.agg #[])) 20 69 true).run Try.prog W = .ok (.tuple #[z, .bool false]) W := ⟨((Try.prog.info? 69).bind (·.zero)).getD undef, fun W => by kernel_rfl⟩
theorem as_noQ_59 : ∃ z, ∀ W : World, (Instr.typeAssert (.iface 65 (.agg #[])) 20 59 true).run Try.prog W = .ok (.tuple #[z, .bool false]) W := ⟨((Try.prog.info? 59).bind (·.zero)).getD undef, fun W => by kernel_rfl⟩
theorem as_noQ_52 : ∃ z, ∀ W : World, (Instr.typeAssert (.iface 65 (.agg #[])) 20 52 true).run Try.prog W = .ok (.tuple #[z, .bool false]) W := ⟨((Try.prog.info? 52).bind (·.zero)).getD undef, fun W => by kernel_rfl⟩
theorem as_noQ_55 : ∃ z, ∀ W : World, (Instr.typeAssert (.iface 65 (.agg #[])) 20 55 true).run Try.prog W = .ok (.tuple #[z, .bool false]) W := ⟨((Try.prog.info? 55).bind (·.zero)).getD undef, fun W => by kernel_rfl⟩
theorem as_noQ_71 : ∃ z, ∀ W : World, (Instr.typeAssert (.iface 65 (.agg #[])) 20 71 true).run Try.prog W = .ok (.tuple #[z, .bool false]) W := ⟨((Try.prog.info? 71).bind (·.zero)).getD undef, fun W => by kernel_rfl⟩
theorem as_noQ_72 : ∃ z, ∀ W : World, (Instr.typeAssert (.iface 65 (.agg #[])) 20 72 true).run Try.prog W = .ok (.tuple #[z, .bool false]) W := ⟨((Try.prog.info? 72).bind (·.zero)).getD undef, fun W => by kernel_rfl⟩
theorem as_noQ_74 : ∃ z, ∀ W : World, (Instr.typeAssert (.iface 65 (.agg #[])) 20 74 true).run Try.prog W = .ok (.tuple #[z, .bool false]) W := ⟨((Try.prog.info? 74).bind (·.zero)).getD undef, fun W => by kernel_rfl⟩
theorem as_noQ_57 : ∃ z, ∀ W : World, (Instr.typeAssert (.iface 65 (.agg #[])) 20 57 true).run Try.prog W = .ok (.tuple #[z, .bool false]) W := ⟨((Try.prog.info? 57).bind (·.zero)).getD undef, fun W => by kernel_rfl⟩
theorem as_quota : ∀ W : World, (Instr.typeAssert (.iface 65 (.agg #[])) 20 65 true).run Try.prog W = .ok (.tuple #[.agg #[], .bool true]) W := fun W => by kernel_rfl
theorem as_noN_61 : ∃ z, ∀ W : World, (Instr.typeAssert .nilIface 20 61 true).run Try.prog W = .ok (.tuple #[z, .bool false]) W := ⟨((Try.prog.info? 61).bind (·.zero)).getD undef, fun W => by kernel_rfl⟩
theorem as_noN_48 : ∃ z, ∀ W : World, (Instr.typeAssert .nilIface 20 48 true).run Try.prog W = .ok (.tuple #[z, .bool false]) W := ⟨((Try.prog.info? 48).bind (·.zero)).getD undef, fun W => by kernel_rfl⟩
theorem as_noN_50 : ∃ z, ∀ W : World, (Instr.typeAssert .nilIface 20 50 true).run Try.prog W = .ok (.tuple #[z, .bool false]) W := ⟨((Try.prog.info? 50).bind (·.zero)).getD undef, fun W => by kernel_rfl⟩
theorem as_noN_69 : ∃ z, ∀ W : World, (Instr.typeAssert .nilIface 20 69 true).run Try.prog W = .ok (.tuple #[z, .bool false]) W := ⟨((Try.prog.info? 69).bind (·.zero)).getD undef, fun W => by kernel_rfl⟩
theorem as_noN_59 : ∃ z, ∀ W : World, (Instr.typeAssert .nilIface 20 59 true).run Try.prog W = .ok (.tuple #[z, .bool false]) W := ⟨((Try.prog.info? 59).bind (·.zero)).getD undef, fun W => by kernel_rfl⟩
theorem as_noN_52 : ∃ z, ∀ W : World, (Instr.typeAssert .nilIface 20 52 true).run Try.prog W = .ok (.tuple #[z, .bool false]) W := ⟨((Try.prog.info? 52).bind (·.zero)).getD undef, fun W => by kernel_rfl⟩
theorem as_noN_55 : ∃ z, ∀ W : World, (Instr.typeAssert .nilIface 20 55 true).run Try.prog W = .ok (.tuple #[z, .bool false]) W := ⟨((Try.prog.info? 55).bind (·.zero)).getD undef, fun W => by kernel_rfl⟩
theorem as_noN_71 : ∃ z, ∀ W : World, (Instr.typeAssert .nilIface 20 71 true).run Try.prog W = .ok (.tuple #[z, .bool false]) W := ⟨((Try.prog.info? 71).bind (·.zero)).getD undef, fun W => by kernel_rfl⟩
theorem as_noN_72 : ∃ z, ∀ W : World, (Instr.typeAssert .nilIface 20 72 true).run Try.prog W = .ok (.tuple #[z, .bool false]) W := ⟨((Try.prog.info? 72).bind (·.zero)).getD undef, fun W => by kernel_rfl⟩
theorem as_noN_74 : ∃ z, ∀ W : World, (Instr.typeAssert .nilIface 20 74 true).run Try.prog W = .ok (.tuple #[z, .bool false]) W := ⟨((Try.prog.info? 74).bind (·.zero)).getD undef, fun W => by kernel_rfl⟩
theorem as_noN_57 : ∃ z, ∀ W : World, (Instr.typeAssert .nilIface 20 57 true).run Try.prog W = .ok (.tuple #[z, .bool false]) W := ⟨((Try.prog.info? 57).bind (·.zero)).getD undef, fun W => by kernel_rfl⟩
theorem as_noN_65 : ∃ z, ∀ W : World, (Instr.typeAssert .nilIface 20 65 true).run Try.prog W = .ok (.tuple #[z, .bool false]) W := ⟨((Try.prog.info? 65).bind (·.zero)).getD undef, fun W => by kernel_rfl⟩
theorem as_noN_75 : ∃ z, ∀ W : World, (Instr.typeAssert .nilIface 20 75 true).run Try.prog W = .ok (.tuple #[z, .bool false]) W := ⟨((Try.prog.info? 75).bind (·.zero)).getD undef, fun W => by kernel_rfl⟩
theorem as_noP_61 (b : Nat) : ∃ z, ∀ W : World, (Instr.typeAssert (.iface 67 (.pointer (some ⟨b, 0, none⟩))) 20 61 true).run Try.prog W = .ok (.tuple #[z, .bool false]) W := ⟨((Try.prog.info? 61).bind (·.zero)).getD undef, fun W => by kernel_rfl⟩
theorem as_noP_48 (b : Nat) : ∃ z, ∀ W : World, (Instr.typeAssert (.iface 67 (.pointer (some ⟨b, 0, none⟩))) 20 48 true).run Try.prog W = .ok (.tuple #[z, .bool false]) W := ⟨((Try.prog.info? 48).bind (·.zero)).getD undef, fun W => by kernel_rfl⟩
theorem as_noP_50 (b : Nat) : ∃ z, ∀ W : World, (Instr.typeAssert (.iface 67 (.pointer (some ⟨b, 0, none⟩))) 20 50 true).run Try.prog W = .ok (.tuple #[z, .bool false]) W := ⟨((Try.prog.info? 50).bind (·.zero)).getD undef, fun W => by kernel_rfl⟩
theorem as_noP_69 (b : Nat) : ∃ z, ∀ W : World, (Instr.typeAssert (.iface 67 (.pointer (some ⟨b, 0, none⟩))) 20 69 true).run Try.prog W = .ok (.tuple #[z, .bool false]) W := ⟨((Try.prog.info? 69).bind (·.zero)).getD undef, fun W => by kernel_rfl⟩
theorem as_noP_59 (b : Nat) : ∃ z, ∀ W : World, (Instr.typeAssert (.iface 67 (.pointer (some ⟨b, 0, none⟩))) 20 59 true).run Try.prog W = .ok (.tuple #[z, .bool false]) W := ⟨((Try.prog.info? 59).bind (·.zero)).getD undef, fun W => by kernel_rfl⟩
theorem as_noP_52 (b : Nat) : ∃ z, ∀ W : World, (Instr.typeAssert (.iface 67 (.pointer (some ⟨b, 0, none⟩))) 20 52 true).run Try.prog W = .ok (.tuple #[z, .bool false]) W := ⟨((Try.prog.info? 52).bind (·.zero)).getD undef, fun W => by kernel_rfl⟩
theorem as_noP_55 (b : Nat) : ∃ z, ∀ W : World, (Instr.typeAssert (.iface 67 (.pointer (some ⟨b, 0, none⟩))) 20 55 true).run Try.prog W = .ok (.tuple #[z, .bool false]) W := ⟨((Try.prog.info? 55).bind (·.zero)).getD undef, fun W => by kernel_rfl⟩
theorem as_noP_71 (b : Nat) : ∃ z, ∀ W : World, (Instr.typeAssert (.iface 67 (.pointer (some ⟨b, 0, none⟩))) 20 71 true).run Try.prog W = .ok (.tuple #[z, .bool false]) W := ⟨((Try.prog.info? 71).bind (·.zero)).getD undef, fun W => by kernel_rfl⟩
theorem as_noP_72 (b : Nat) : ∃ z, ∀ W : World, (Instr.typeAssert (.iface 67 (.pointer (some ⟨b, 0, none⟩))) 20 72 true).run Try.prog W = .ok (.tuple #[z, .bool false]) W := ⟨((Try.prog.info? 72).bind (·.zero)).getD undef, fun W => by kernel_rfl⟩
theorem as_noP_74 (b : Nat) : ∃ z, ∀ W : World, (Instr.typeAssert (.iface 67 (.pointer (some ⟨b, 0, none⟩))) 20 74 true).run Try.prog W = .ok (.tuple #[z, .bool false]) W := ⟨((Try.prog.info? 74).bind (·.zero)).getD undef, fun W => by kernel_rfl⟩
theorem as_noP_57 (b : Nat) : ∃ z, ∀ W : World, (Instr.typeAssert (.iface 67 (.pointer (some ⟨b, 0, none⟩))) 20 57 true).run Try.prog W = .ok (.tuple #[z, .bool false]) W := ⟨((Try.prog.info? 57).bind (·.zero)).getD undef, fun W => by kernel_rfl⟩
theorem as_noP_65 (b : Nat) : ∃ z, ∀ W : World, (Instr.typeAssert (.iface 67 (.pointer (some ⟨b, 0, none⟩))) 20 65 true).run Try.prog W = .ok (.tuple #[z, .bool false]) W := ⟨((Try.prog.info? 65).bind (·.zero)).getD undef, fun W => by kernel_rfl⟩
theorem as_noP_75 (b : Nat) : ∃ z, ∀ W : World, (Instr.typeAssert (.iface 67 (.pointer (some ⟨b, 0, none⟩))) 20 75 true).run Try.prog W = .ok (.tuple #[z, .bool false]) W := ⟨((Try.prog.info? 75).bind (·.zero)).getD undef, fun W => by kernel_rfl⟩
set_option maxHeartbeats 1000000 in
set_option maxRecDepth 100000 in
theorem of.quota (w : World) : Calls Try.prog 19 #[.iface 65 (.agg #[])] w fun e w' => ∃ b, e = .returned (.tuple #[.iface 67 (.pointer (some ⟨b, 0, none⟩)), .bool true]) ∧ w'.heap[b]? = some (.cells #[] 65 (0, 0)) ∧ Below w.heap.size w w' := by
  have hb := hid ((Below.refl w.heap.size w).alloc (Nat.le_refl _) (.cells #[] 65))
  have hn : Hid ((w.alloc (.cells #[] 65)).heap[w.heap.size]? = some (.cells #[] 65 (0, 0))) := hid Array.getElem?_push_size
  obtain ⟨z61, h61⟩ := as_noQ_61
  obtain ⟨z48, h48⟩ := as_noQ_48
  obtain ⟨z50, h50⟩ := as_noQ_50
  obtain ⟨z69, h69⟩ := as_noQ_69
  obtain ⟨z59, h59⟩ := as_noQ_59
  obtain ⟨z52, h52⟩ := as_noQ_52
  obtain ⟨z55, h55⟩ := as_noQ_55
  obtain ⟨z71, h71⟩ := as_noQ_71
  obtain ⟨z72, h72⟩ := as_noQ_72
  obtain ⟨z74, h74⟩ := as_noQ_74
  obtain ⟨z57, h57⟩ := as_noQ_57
  have hq := as_quota
  go_enter Try.func19, Try.ntmps19
  go_wp2_with fail
  go_ret2
  exact ⟨_, rfl, hn.out, hb.out⟩
set_option maxHeartbeats 1000000 in
set_option maxRecDepth 100000 in
theorem of.nil (w : World) : Calls Try.prog 19 #[.nilIface] w fun e w' => e = .returned (.tuple #[.nilIface, .bool false]) ∧ w = w' := by
  obtain ⟨z61, h61⟩ := as_noN_61
  obtain ⟨z48, h48⟩ := as_noN_48
  obtain ⟨z50, h50⟩ := as_noN_50
  obtain ⟨z69, h69⟩ := as_noN_69
  obtain ⟨z59, h59⟩ := as_noN_59
  obtain ⟨z52, h52⟩ := as_noN_52
  obtain ⟨z55, h55⟩ := as_noN_55
  obtain ⟨z71, h71⟩ := as_noN_71
  obtain ⟨z72, h72⟩ := as_noN_72
  obtain ⟨z74, h74⟩ := as_noN_74
  obtain ⟨z57, h57⟩ := as_noN_57
  obtain ⟨z65, h65⟩ := as_noN_65
  obtain ⟨z75, h75⟩ := as_noN_75
  go_enter Try.func19, Try.ntmps19
  go_wp2_with fail
  go_ret2
  exact ⟨rfl, rfl⟩
set_option maxHeartbeats 1000000 in
set_option maxRecDepth 100000 in
theorem of.ptr (b : Nat) (w : World) : Calls Try.prog 19 #[.iface 67 (.pointer (some ⟨b, 0, none⟩))] w fun e w' => e = .returned (.tuple #[.nilIface, .bool false]) ∧ w = w' := by
  obtain ⟨z61, h61⟩ := as_noP_61 b
  obtain ⟨z48, h48⟩ := as_noP_48 b
  obtain ⟨z50, h50⟩ := as_noP_50 b
  obtain ⟨z69, h69⟩ := as_noP_69 b
  obtain ⟨z59, h59⟩ := as_noP_59 b
  obtain ⟨z52, h52⟩ := as_noP_52 b
  obtain ⟨z55, h55⟩ := as_noP_55 b
  obtain ⟨z71, h71⟩ := as_noP_71 b
  obtain ⟨z72, h72⟩ := as_noP_72 b
  obtain ⟨z74, h74⟩ := as_noP_74 b
  obtain ⟨z57, h57⟩ := as_noP_57 b
  obtain ⟨z65, h65⟩ := as_noP_65 b
  obtain ⟨z75, h75⟩ := as_noP_75 b
  go_enter Try.func19, Try.ntmps19
  go_wp2_with fail
  go_ret2
  exact ⟨rfl, rfl⟩
set_option maxHeartbeats 1000000 in
set_option maxRecDepth 100000 in
theorem empty.quota (w : World) : Calls Try.prog 21 #[.int .i64 12] w fun e w' => ∃ b, e = .returned (.tuple #[.iface 67 (.pointer (some ⟨b, 0, none⟩)), .bool true]) ∧ w'.heap[b]? = some (.cells #[] 65 (0, 0)) ∧ Below w.heap.size w w' := by
  go_enter Try.func21, Try.ntmps21
  go_wp2_with fail
  go_ret2
  refine ⟨_, rfl, ?_, ?_⟩
  · simp only [World.alloc, Array.getElem?_push, Array.size_push]
    repeat (first | rw [if_pos trivial] | rw [if_pos rfl] | rw [if_neg (by omega)])
  · repeat (first | exact Below.refl _ _ | apply below_alloc)
end Go.Proofs.Ytfbcidfbgebbhaa.A
