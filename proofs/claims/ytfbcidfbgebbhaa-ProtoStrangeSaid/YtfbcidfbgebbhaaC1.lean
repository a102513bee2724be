/-
  A request as one whose fields can be got at: of.
-/
import Derived.Test.YtfbcidfbgebbhaaC0
namespace Go.Proofs.Ytfbcidfbgebbhaa.C
set_option linter.unusedVariables false
set_option linter.unusedSimpArgs false
open Go.RowKit Go.Proofs.YtfbcidfbgebbhaaW.PrintWords Go.Proofs.YtfbcidfbgebbhaaW.PrintLast Go.Proofs.YtfbcidfbgebbhaaW.PrintMore
open Go.Lib (hid)
theorem yes_61 (v : Value) : ∀ W : World, (Instr.typeAssert (.iface 61 v) 20 61 true).run Try.prog W = .ok (.tuple #[v, .bool true]) W := fun W => by kernel_rfl
theorem req_61 (v : Value) : ∀ W : World, (Instr.typeAssert (.iface 61 v) 20 40 false).run Try.prog W = .ok (.iface 61 v) W := fun W => by kernel_rfl
set_option maxHeartbeats 1000000 in
set_option maxRecDepth 100000 in
theorem ofHello (x0 : ByteArray) (w : World) : Calls Try.prog 19 #[.iface 61 (.agg #[.string x0])] w fun e w' => ∃ b, e = .returned (.tuple #[.iface 100 (.pointer (some ⟨b, 0, none⟩)), .bool true]) ∧ w'.heap[b]? = some (.cells #[.string x0] 61 (0, 0)) ∧ Below w.heap.size w w' := by
  have hb := hid (below_alloc (Below.refl w.heap.size w) (.cells #[.string x0] 61))
  have hn : Hid ((w.alloc (.cells #[.string x0] 61)).heap[w.heap.size]? = some (.cells #[.string x0] 61 (0, 0))) := hid Array.getElem?_push_size
  have hq := yes_61 (.agg #[.string x0])
  go_enter Try.func19, Try.ntmps19
  go_wp2_with fail
  go_ret2
  exact ⟨_, rfl, hn.out, hb.out⟩
theorem no_48_61 (v : Value) : ∃ z, ∀ W : World, (Instr.typeAssert (.iface 48 v) 20 61 true).run Try.prog W = .ok (.tuple #[z, .bool false]) W := ⟨((Try.prog.info? 61).bind (·.zero)).getD undef, fun W => by kernel_rfl⟩
theorem yes_48 (v : Value) : ∀ W : World, (Instr.typeAssert (.iface 48 v) 20 48 true).run Try.prog W = .ok (.tuple #[v, .bool true]) W := fun W => by kernel_rfl
theorem req_48 (v : Value) : ∀ W : World, (Instr.typeAssert (.iface 48 v) 20 40 false).run Try.prog W = .ok (.iface 48 v) W := fun W => by kernel_rfl
set_option maxHeartbeats 1000000 in
set_option maxRecDepth 100000 in
theorem ofRegister (x0 : ByteArray) (x1 : Int) (w : World) : Calls Try.prog 19 #[.iface 48 (.agg #[.string x0, .int .i64 x1])] w fun e w' => ∃ b, e = .returned (.tuple #[.iface 101 (.pointer (some ⟨b, 0, none⟩)), .bool true]) ∧ w'.heap[b]? = some (.cells #[.string x0, .int .i64 x1] 48 (0, 0)) ∧ Below w.heap.size w w' := by
  have hb := hid (below_alloc (Below.refl w.heap.size w) (.cells #[.string x0, .int .i64 x1] 48))
  have hn : Hid ((w.alloc (.cells #[.string x0, .int .i64 x1] 48)).heap[w.heap.size]? = some (.cells #[.string x0, .int .i64 x1] 48 (0, 0))) := hid Array.getElem?_push_size
  obtain ⟨z61, h61⟩ := no_48_61 (.agg #[.string x0, .int .i64 x1])
  have hq := yes_48 (.agg #[.string x0, .int .i64 x1])
  go_enter Try.func19, Try.ntmps19
  go_wp2_with fail
  go_ret2
  exact ⟨_, rfl, hn.out, hb.out⟩
theorem no_50_61 (v : Value) : ∃ z, ∀ W : World, (Instr.typeAssert (.iface 50 v) 20 61 true).run Try.prog W = .ok (.tuple #[z, .bool false]) W := ⟨((Try.prog.info? 61).bind (·.zero)).getD undef, fun W => by kernel_rfl⟩
theorem no_50_48 (v : Value) : ∃ z, ∀ W : World, (Instr.typeAssert (.iface 50 v) 20 48 true).run Try.prog W = .ok (.tuple #[z, .bool false]) W := ⟨((Try.prog.info? 48).bind (·.zero)).getD undef, fun W => by kernel_rfl⟩
theorem yes_50 (v : Value) : ∀ W : World, (Instr.typeAssert (.iface 50 v) 20 50 true).run Try.prog W = .ok (.tuple #[v, .bool true]) W := fun W => by kernel_rfl
theorem req_50 (v : Value) : ∀ W : World, (Instr.typeAssert (.iface 50 v) 20 40 false).run Try.prog W = .ok (.iface 50 v) W := fun W => by kernel_rfl
set_option maxHeartbeats 1000000 in
set_option maxRecDepth 100000 in
theorem ofMint (x0 : Int) (x1 : Int) (x2 : Int) (x3 : Int) (w : World) : Calls Try.prog 19 #[.iface 50 (.agg #[.int .i64 x0, .int .i64 x1, .int .i64 x2, .int .i64 x3])] w fun e w' => ∃ b, e = .returned (.tuple #[.iface 102 (.pointer (some ⟨b, 0, none⟩)), .bool true]) ∧ w'.heap[b]? = some (.cells #[.int .i64 x0, .int .i64 x1, .int .i64 x2, .int .i64 x3] 50 (0, 0)) ∧ Below w.heap.size w w' := by
  have hb := hid (below_alloc (Below.refl w.heap.size w) (.cells #[.int .i64 x0, .int .i64 x1, .int .i64 x2, .int .i64 x3] 50))
  have hn : Hid ((w.alloc (.cells #[.int .i64 x0, .int .i64 x1, .int .i64 x2, .int .i64 x3] 50)).heap[w.heap.size]? = some (.cells #[.int .i64 x0, .int .i64 x1, .int .i64 x2, .int .i64 x3] 50 (0, 0))) := hid Array.getElem?_push_size
  obtain ⟨z61, h61⟩ := no_50_61 (.agg #[.int .i64 x0, .int .i64 x1, .int .i64 x2, .int .i64 x3])
  obtain ⟨z48, h48⟩ := no_50_48 (.agg #[.int .i64 x0, .int .i64 x1, .int .i64 x2, .int .i64 x3])
  have hq := yes_50 (.agg #[.int .i64 x0, .int .i64 x1, .int .i64 x2, .int .i64 x3])
  go_enter Try.func19, Try.ntmps19
  go_wp2_with fail
  go_ret2
  exact ⟨_, rfl, hn.out, hb.out⟩
theorem no_69_61 (v : Value) : ∃ z, ∀ W : World, (Instr.typeAssert (.iface 69 v) 20 61 true).run Try.prog W = .ok (.tuple #[z, .bool false]) W := ⟨((Try.prog.info? 61).bind (·.zero)).getD undef, fun W => by kernel_rfl⟩
theorem no_69_48 (v : Value) : ∃ z, ∀ W : World, (Instr.typeAssert (.iface 69 v) 20 48 true).run Try.prog W = .ok (.tuple #[z, .bool false]) W := ⟨((Try.prog.info? 48).bind (·.zero)).getD undef, fun W => by kernel_rfl⟩
theorem no_69_50 (v : Value) : ∃ z, ∀ W : World, (Instr.typeAssert (.iface 69 v) 20 50 true).run Try.prog W = .ok (.tuple #[z, .bool false]) W := ⟨((Try.prog.info? 50).bind (·.zero)).getD undef, fun W => by kernel_rfl⟩
theorem yes_69 (v : Value) : ∀ W : World, (Instr.typeAssert (.iface 69 v) 20 69 true).run Try.prog W = .ok (.tuple #[v, .bool true]) W := fun W => by kernel_rfl
theorem req_69 (v : Value) : ∀ W : World, (Instr.typeAssert (.iface 69 v) 20 40 false).run Try.prog W = .ok (.iface 69 v) W := fun W => by kernel_rfl
set_option maxHeartbeats 1000000 in
set_option maxRecDepth 100000 in
theorem ofDerive (x0 : ByteArray) (x1 : ByteArray) (x2 : Int) (x3 : Int) (x4 : Int) (w : World) : Calls Try.prog 19 #[.iface 69 (.agg #[.string x0, .string x1, .int .i64 x2, .int .i64 x3, .int .i64 x4])] w fun e w' => ∃ b, e = .returned (.tuple #[.iface 103 (.pointer (some ⟨b, 0, none⟩)), .bool true]) ∧ w'.heap[b]? = some (.cells #[.string x0, .string x1, .int .i64 x2, .int .i64 x3, .int .i64 x4] 69 (0, 0)) ∧ Below w.heap.size w w' := by
  have hb := hid (below_alloc (Below.refl w.heap.size w) (.cells #[.string x0, .string x1, .int .i64 x2, .int .i64 x3, .int .i64 x4] 69))
  have hn : Hid ((w.alloc (.cells #[.string x0, .string x1, .int .i64 x2, .int .i64 x3, .int .i64 x4] 69)).heap[w.heap.size]? = some (.cells #[.string x0, .string x1, .int .i64 x2, .int .i64 x3, .int .i64 x4] 69 (0, 0))) := hid Array.getElem?_push_size
  obtain ⟨z61, h61⟩ := no_69_61 (.agg #[.string x0, .string x1, .int .i64 x2, .int .i64 x3, .int .i64 x4])
  obtain ⟨z48, h48⟩ := no_69_48 (.agg #[.string x0, .string x1, .int .i64 x2, .int .i64 x3, .int .i64 x4])
  obtain ⟨z50, h50⟩ := no_69_50 (.agg #[.string x0, .string x1, .int .i64 x2, .int .i64 x3, .int .i64 x4])
  have hq := yes_69 (.agg #[.string x0, .string x1, .int .i64 x2, .int .i64 x3, .int .i64 x4])
  go_enter Try.func19, Try.ntmps19
  go_wp2_with fail
  go_ret2
  exact ⟨_, rfl, hn.out, hb.out⟩
theorem no_59_61 (v : Value) : ∃ z, ∀ W : World, (Instr.typeAssert (.iface 59 v) 20 61 true).run Try.prog W = .ok (.tuple #[z, .bool false]) W := ⟨((Try.prog.info? 61).bind (·.zero)).getD undef, fun W => by kernel_rfl⟩
theorem no_59_48 (v : Value) : ∃ z, ∀ W : World, (Instr.typeAssert (.iface 59 v) 20 48 true).run Try.prog W = .ok (.tuple #[z, .bool false]) W := ⟨((Try.prog.info? 48).bind (·.zero)).getD undef, fun W => by kernel_rfl⟩
theorem no_59_50 (v : Value) : ∃ z, ∀ W : World, (Instr.typeAssert (.iface 59 v) 20 50 true).run Try.prog W = .ok (.tuple #[z, .bool false]) W := ⟨((Try.prog.info? 50).bind (·.zero)).getD undef, fun W => by kernel_rfl⟩
theorem no_59_69 (v : Value) : ∃ z, ∀ W : World, (Instr.typeAssert (.iface 59 v) 20 69 true).run Try.prog W = .ok (.tuple #[z, .bool false]) W := ⟨((Try.prog.info? 69).bind (·.zero)).getD undef, fun W => by kernel_rfl⟩
theorem yes_59 (v : Value) : ∀ W : World, (Instr.typeAssert (.iface 59 v) 20 59 true).run Try.prog W = .ok (.tuple #[v, .bool true]) W := fun W => by kernel_rfl
theorem req_59 (v : Value) : ∀ W : World, (Instr.typeAssert (.iface 59 v) 20 40 false).run Try.prog W = .ok (.iface 59 v) W := fun W => by kernel_rfl
set_option maxHeartbeats 1000000 in
set_option maxRecDepth 100000 in
theorem ofRenew (x0 : ByteArray) (x1 : Int) (w : World) : Calls Try.prog 19 #[.iface 59 (.agg #[.string x0, .int .i64 x1])] w fun e w' => ∃ b, e = .returned (.tuple #[.iface 104 (.pointer (some ⟨b, 0, none⟩)), .bool true]) ∧ w'.heap[b]? = some (.cells #[.string x0, .int .i64 x1] 59 (0, 0)) ∧ Below w.heap.size w w' := by
  have hb := hid (below_alloc (Below.refl w.heap.size w) (.cells #[.string x0, .int .i64 x1] 59))
  have hn : Hid ((w.alloc (.cells #[.string x0, .int .i64 x1] 59)).heap[w.heap.size]? = some (.cells #[.string x0, .int .i64 x1] 59 (0, 0))) := hid Array.getElem?_push_size
  obtain ⟨z61, h61⟩ := no_59_61 (.agg #[.string x0, .int .i64 x1])
  obtain ⟨z48, h48⟩ := no_59_48 (.agg #[.string x0, .int .i64 x1])
  obtain ⟨z50, h50⟩ := no_59_50 (.agg #[.string x0, .int .i64 x1])
  obtain ⟨z69, h69⟩ := no_59_69 (.agg #[.string x0, .int .i64 x1])
  have hq := yes_59 (.agg #[.string x0, .int .i64 x1])
  go_enter Try.func19, Try.ntmps19
  go_wp2_with fail
  go_ret2
  exact ⟨_, rfl, hn.out, hb.out⟩
theorem no_52_61 (v : Value) : ∃ z, ∀ W : World, (Instr.typeAssert (.iface 52 v) 20 61 true).run Try.prog W = .ok (.tuple #[z, .bool false]) W := ⟨((Try.prog.info? 61).bind (·.zero)).getD undef, fun W => by kernel_rfl⟩
theorem no_52_48 (v : Value) : ∃ z, ∀ W : World, (Instr.typeAssert (.iface 52 v) 20 48 true).run Try.prog W = .ok (.tuple #[z, .bool false]) W := ⟨((Try.prog.info? 48).bind (·.zero)).getD undef, fun W => by kernel_rfl⟩
theorem no_52_50 (v : Value) : ∃ z, ∀ W : World, (Instr.typeAssert (.iface 52 v) 20 50 true).run Try.prog W = .ok (.tuple #[z, .bool false]) W := ⟨((Try.prog.info? 50).bind (·.zero)).getD undef, fun W => by kernel_rfl⟩
theorem no_52_69 (v : Value) : ∃ z, ∀ W : World, (Instr.typeAssert (.iface 52 v) 20 69 true).run Try.prog W = .ok (.tuple #[z, .bool false]) W := ⟨((Try.prog.info? 69).bind (·.zero)).getD undef, fun W => by kernel_rfl⟩
theorem no_52_59 (v : Value) : ∃ z, ∀ W : World, (Instr.typeAssert (.iface 52 v) 20 59 true).run Try.prog W = .ok (.tuple #[z, .bool false]) W := ⟨((Try.prog.info? 59).bind (·.zero)).getD undef, fun W => by kernel_rfl⟩
theorem yes_52 (v : Value) : ∀ W : World, (Instr.typeAssert (.iface 52 v) 20 52 true).run Try.prog W = .ok (.tuple #[v, .bool true]) W := fun W => by kernel_rfl
theorem req_52 (v : Value) : ∀ W : World, (Instr.typeAssert (.iface 52 v) 20 40 false).run Try.prog W = .ok (.iface 52 v) W := fun W => by kernel_rfl
set_option maxHeartbeats 1000000 in
set_option maxRecDepth 100000 in
theorem ofValidate (x0 : ByteArray) (w : World) : Calls Try.prog 19 #[.iface 52 (.agg #[.string x0])] w fun e w' => ∃ b, e = .returned (.tuple #[.iface 105 (.pointer (some ⟨b, 0, none⟩)), .bool true]) ∧ w'.heap[b]? = some (.cells #[.string x0] 52 (0, 0)) ∧ Below w.heap.size w w' := by
  have hb := hid (below_alloc (Below.refl w.heap.size w) (.cells #[.string x0] 52))
  have hn : Hid ((w.alloc (.cells #[.string x0] 52)).heap[w.heap.size]? = some (.cells #[.string x0] 52 (0, 0))) := hid Array.getElem?_push_size
  obtain ⟨z61, h61⟩ := no_52_61 (.agg #[.string x0])
  obtain ⟨z48, h48⟩ := no_52_48 (.agg #[.string x0])
  obtain ⟨z50, h50⟩ := no_52_50 (.agg #[.string x0])
  obtain ⟨z69, h69⟩ := no_52_69 (.agg #[.string x0])
  obtain ⟨z59, h59⟩ := no_52_59 (.agg #[.string x0])
  have hq := yes_52 (.agg #[.string x0])
  go_enter Try.func19, Try.ntmps19
  go_wp2_with fail
  go_ret2
  exact ⟨_, rfl, hn.out, hb.out⟩
theorem no_55_61 (v : Value) : ∃ z, ∀ W : World, (Instr.typeAssert (.iface 55 v) 20 61 true).run Try.prog W = .ok (.tuple #[z, .bool false]) W := ⟨((Try.prog.info? 61).bind (·.zero)).getD undef, fun W => by kernel_rfl⟩
theorem no_55_48 (v : Value) : ∃ z, ∀ W : World, (Instr.typeAssert (.iface 55 v) 20 48 true).run Try.prog W = .ok (.tuple #[z, .bool false]) W := ⟨((Try.prog.info? 48).bind (·.zero)).getD undef, fun W => by kernel_rfl⟩
theorem no_55_50 (v : Value) : ∃ z, ∀ W : World, (Instr.typeAssert (.iface 55 v) 20 50 true).run Try.prog W = .ok (.tuple #[z, .bool false]) W := ⟨((Try.prog.info? 50).bind (·.zero)).getD undef, fun W => by kernel_rfl⟩
theorem no_55_69 (v : Value) : ∃ z, ∀ W : World, (Instr.typeAssert (.iface 55 v) 20 69 true).run Try.prog W = .ok (.tuple #[z, .bool false]) W := ⟨((Try.prog.info? 69).bind (·.zero)).getD undef, fun W => by kernel_rfl⟩
theorem no_55_59 (v : Value) : ∃ z, ∀ W : World, (Instr.typeAssert (.iface 55 v) 20 59 true).run Try.prog W = .ok (.tuple #[z, .bool false]) W := ⟨((Try.prog.info? 59).bind (·.zero)).getD undef, fun W => by kernel_rfl⟩
theorem no_55_52 (v : Value) : ∃ z, ∀ W : World, (Instr.typeAssert (.iface 55 v) 20 52 true).run Try.prog W = .ok (.tuple #[z, .bool false]) W := ⟨((Try.prog.info? 52).bind (·.zero)).getD undef, fun W => by kernel_rfl⟩
theorem yes_55 (v : Value) : ∀ W : World, (Instr.typeAssert (.iface 55 v) 20 55 true).run Try.prog W = .ok (.tuple #[v, .bool true]) W := fun W => by kernel_rfl
theorem req_55 (v : Value) : ∀ W : World, (Instr.typeAssert (.iface 55 v) 20 40 false).run Try.prog W = .ok (.iface 55 v) W := fun W => by kernel_rfl
set_option maxHeartbeats 1000000 in
set_option maxRecDepth 100000 in
theorem ofInvoke (x0 : ByteArray) (x1 : Int) (w : World) : Calls Try.prog 19 #[.iface 55 (.agg #[.string x0, .int .i32 x1])] w fun e w' => ∃ b, e = .returned (.tuple #[.iface 106 (.pointer (some ⟨b, 0, none⟩)), .bool true]) ∧ w'.heap[b]? = some (.cells #[.string x0, .int .i32 x1] 55 (0, 0)) ∧ Below w.heap.size w w' := by
  have hb := hid (below_alloc (Below.refl w.heap.size w) (.cells #[.string x0, .int .i32 x1] 55))
  have hn : Hid ((w.alloc (.cells #[.string x0, .int .i32 x1] 55)).heap[w.heap.size]? = some (.cells #[.string x0, .int .i32 x1] 55 (0, 0))) := hid Array.getElem?_push_size
  obtain ⟨z61, h61⟩ := no_55_61 (.agg #[.string x0, .int .i32 x1])
  obtain ⟨z48, h48⟩ := no_55_48 (.agg #[.string x0, .int .i32 x1])
  obtain ⟨z50, h50⟩ := no_55_50 (.agg #[.string x0, .int .i32 x1])
  obtain ⟨z69, h69⟩ := no_55_69 (.agg #[.string x0, .int .i32 x1])
  obtain ⟨z59, h59⟩ := no_55_59 (.agg #[.string x0, .int .i32 x1])
  obtain ⟨z52, h52⟩ := no_55_52 (.agg #[.string x0, .int .i32 x1])
  have hq := yes_55 (.agg #[.string x0, .int .i32 x1])
  go_enter Try.func19, Try.ntmps19
  go_wp2_with fail
  go_ret2
  exact ⟨_, rfl, hn.out, hb.out⟩
theorem no_71_61 (v : Value) : ∃ z, ∀ W : World, (Instr.typeAssert (.iface 71 v) 20 61 true).run Try.prog W = .ok (.tuple #[z, .bool false]) W := ⟨((Try.prog.info? 61).bind (·.zero)).getD undef, fun W => by kernel_rfl⟩
theorem no_71_48 (v : Value) : ∃ z, ∀ W : World, (Instr.typeAssert (.iface 71 v) 20 48 true).run Try.prog W = .ok (.tuple #[z, .bool false]) W := ⟨((Try.prog.info? 48).bind (·.zero)).getD undef, fun W => by kernel_rfl⟩
theorem no_71_50 (v : Value) : ∃ z, ∀ W : World, (Instr.typeAssert (.iface 71 v) 20 50 true).run Try.prog W = .ok (.tuple #[z, .bool false]) W := ⟨((Try.prog.info? 50).bind (·.zero)).getD undef, fun W => by kernel_rfl⟩
theorem no_71_69 (v : Value) : ∃ z, ∀ W : World, (Instr.typeAssert (.iface 71 v) 20 69 true).run Try.prog W = .ok (.tuple #[z, .bool false]) W := ⟨((Try.prog.info? 69).bind (·.zero)).getD undef, fun W => by kernel_rfl⟩
theorem no_71_59 (v : Value) : ∃ z, ∀ W : World, (Instr.typeAssert (.iface 71 v) 20 59 true).run Try.prog W = .ok (.tuple #[z, .bool false]) W := ⟨((Try.prog.info? 59).bind (·.zero)).getD undef, fun W => by kernel_rfl⟩
theorem no_71_52 (v : Value) : ∃ z, ∀ W : World, (Instr.typeAssert (.iface 71 v) 20 52 true).run Try.prog W = .ok (.tuple #[z, .bool false]) W := ⟨((Try.prog.info? 52).bind (·.zero)).getD undef, fun W => by kernel_rfl⟩
theorem no_71_55 (v : Value) : ∃ z, ∀ W : World, (Instr.typeAssert (.iface 71 v) 20 55 true).run Try.prog W = .ok (.tuple #[z, .bool false]) W := ⟨((Try.prog.info? 55).bind (·.zero)).getD undef, fun W => by kernel_rfl⟩
theorem yes_71 (v : Value) : ∀ W : World, (Instr.typeAssert (.iface 71 v) 20 71 true).run Try.prog W = .ok (.tuple #[v, .bool true]) W := fun W => by kernel_rfl
theorem req_71 (v : Value) : ∀ W : World, (Instr.typeAssert (.iface 71 v) 20 40 false).run Try.prog W = .ok (.iface 71 v) W := fun W => by kernel_rfl
set_option maxHeartbeats 1000000 in
set_option maxRecDepth 100000 in
theorem ofRevoke (x0 : ByteArray) (x1 : Bool) (w : World) : Calls Try.prog 19 #[.iface 71 (.agg #[.string x0, .bool x1])] w fun e w' => ∃ b, e = .returned (.tuple #[.iface 107 (.pointer (some ⟨b, 0, none⟩)), .bool true]) ∧ w'.heap[b]? = some (.cells #[.string x0, .bool x1] 71 (0, 0)) ∧ Below w.heap.size w w' := by
  have hb := hid (below_alloc (Below.refl w.heap.size w) (.cells #[.string x0, .bool x1] 71))
  have hn : Hid ((w.alloc (.cells #[.string x0, .bool x1] 71)).heap[w.heap.size]? = some (.cells #[.string x0, .bool x1] 71 (0, 0))) := hid Array.getElem?_push_size
  obtain ⟨z61, h61⟩ := no_71_61 (.agg #[.string x0, .bool x1])
  obtain ⟨z48, h48⟩ := no_71_48 (.agg #[.string x0, .bool x1])
  obtain ⟨z50, h50⟩ := no_71_50 (.agg #[.string x0, .bool x1])
  obtain ⟨z69, h69⟩ := no_71_69 (.agg #[.string x0, .bool x1])
  obtain ⟨z59, h59⟩ := no_71_59 (.agg #[.string x0, .bool x1])
  obtain ⟨z52, h52⟩ := no_71_52 (.agg #[.string x0, .bool x1])
  obtain ⟨z55, h55⟩ := no_71_55 (.agg #[.string x0, .bool x1])
  have hq := yes_71 (.agg #[.string x0, .bool x1])
  go_enter Try.func19, Try.ntmps19
  go_wp2_with fail
  go_ret2
  exact ⟨_, rfl, hn.out, hb.out⟩
theorem no_72_61 (v : Value) : ∃ z, ∀ W : World, (Instr.typeAssert (.iface 72 v) 20 61 true).run Try.prog W = .ok (.tuple #[z, .bool false]) W := ⟨((Try.prog.info? 61).bind (·.zero)).getD undef, fun W => by kernel_rfl⟩
theorem no_72_48 (v : Value) : ∃ z, ∀ W : World, (Instr.typeAssert (.iface 72 v) 20 48 true).run Try.prog W = .ok (.tuple #[z, .bool false]) W := ⟨((Try.prog.info? 48).bind (·.zero)).getD undef, fun W => by kernel_rfl⟩
theorem no_72_50 (v : Value) : ∃ z, ∀ W : World, (Instr.typeAssert (.iface 72 v) 20 50 true).run Try.prog W = .ok (.tuple #[z, .bool false]) W := ⟨((Try.prog.info? 50).bind (·.zero)).getD undef, fun W => by kernel_rfl⟩
theorem no_72_69 (v : Value) : ∃ z, ∀ W : World, (Instr.typeAssert (.iface 72 v) 20 69 true).run Try.prog W = .ok (.tuple #[z, .bool false]) W := ⟨((Try.prog.info? 69).bind (·.zero)).getD undef, fun W => by kernel_rfl⟩
theorem no_72_59 (v : Value) : ∃ z, ∀ W : World, (Instr.typeAssert (.iface 72 v) 20 59 true).run Try.prog W = .ok (.tuple #[z, .bool false]) W := ⟨((Try.prog.info? 59).bind (·.zero)).getD undef, fun W => by kernel_rfl⟩
theorem no_72_52 (v : Value) : ∃ z, ∀ W : World, (Instr.typeAssert (.iface 72 v) 20 52 true).run Try.prog W = .ok (.tuple #[z, .bool false]) W := ⟨((Try.prog.info? 52).bind (·.zero)).getD undef, fun W => by kernel_rfl⟩
theorem no_72_55 (v : Value) : ∃ z, ∀ W : World, (Instr.typeAssert (.iface 72 v) 20 55 true).run Try.prog W = .ok (.tuple #[z, .bool false]) W := ⟨((Try.prog.info? 55).bind (·.zero)).getD undef, fun W => by kernel_rfl⟩
theorem no_72_71 (v : Value) : ∃ z, ∀ W : World, (Instr.typeAssert (.iface 72 v) 20 71 true).run Try.prog W = .ok (.tuple #[z, .bool false]) W := ⟨((Try.prog.info? 71).bind (·.zero)).getD undef, fun W => by kernel_rfl⟩
theorem yes_72 (v : Value) : ∀ W : World, (Instr.typeAssert (.iface 72 v) 20 72 true).run Try.prog W = .ok (.tuple #[v, .bool true]) W := fun W => by kernel_rfl
theorem req_72 (v : Value) : ∀ W : World, (Instr.typeAssert (.iface 72 v) 20 40 false).run Try.prog W = .ok (.iface 72 v) W := fun W => by kernel_rfl
set_option maxHeartbeats 1000000 in
set_option maxRecDepth 100000 in
theorem ofDelete (x0 : ByteArray) (w : World) : Calls Try.prog 19 #[.iface 72 (.agg #[.string x0])] w fun e w' => ∃ b, e = .returned (.tuple #[.iface 108 (.pointer (some ⟨b, 0, none⟩)), .bool true]) ∧ w'.heap[b]? = some (.cells #[.string x0] 72 (0, 0)) ∧ Below w.heap.size w w' := by
  have hb := hid (below_alloc (Below.refl w.heap.size w) (.cells #[.string x0] 72))
  have hn : Hid ((w.alloc (.cells #[.string x0] 72)).heap[w.heap.size]? = some (.cells #[.string x0] 72 (0, 0))) := hid Array.getElem?_push_size
  obtain ⟨z61, h61⟩ := no_72_61 (.agg #[.string x0])
  obtain ⟨z48, h48⟩ := no_72_48 (.agg #[.string x0])
  obtain ⟨z50, h50⟩ := no_72_50 (.agg #[.string x0])
  obtain ⟨z69, h69⟩ := no_72_69 (.agg #[.string x0])
  obtain ⟨z59, h59⟩ := no_72_59 (.agg #[.string x0])
  obtain ⟨z52, h52⟩ := no_72_52 (.agg #[.string x0])
  obtain ⟨z55, h55⟩ := no_72_55 (.agg #[.string x0])
  obtain ⟨z71, h71⟩ := no_72_71 (.agg #[.string x0])
  have hq := yes_72 (.agg #[.string x0])
  go_enter Try.func19, Try.ntmps19
  go_wp2_with fail
  go_ret2
  exact ⟨_, rfl, hn.out, hb.out⟩
theorem no_74_61 (v : Value) : ∃ z, ∀ W : World, (Instr.typeAssert (.iface 74 v) 20 61 true).run Try.prog W = .ok (.tuple #[z, .bool false]) W := ⟨((Try.prog.info? 61).bind (·.zero)).getD undef, fun W => by kernel_rfl⟩
theorem no_74_48 (v : Value) : ∃ z, ∀ W : World, (Instr.typeAssert (.iface 74 v) 20 48 true).run Try.prog W = .ok (.tuple #[z, .bool false]) W := ⟨((Try.prog.info? 48).bind (·.zero)).getD undef, fun W => by kernel_rfl⟩
theorem no_74_50 (v : Value) : ∃ z, ∀ W : World, (Instr.typeAssert (.iface 74 v) 20 50 true).run Try.prog W = .ok (.tuple #[z, .bool false]) W := ⟨((Try.prog.info? 50).bind (·.zero)).getD undef, fun W => by kernel_rfl⟩
theorem no_74_69 (v : Value) : ∃ z, ∀ W : World, (Instr.typeAssert (.iface 74 v) 20 69 true).run Try.prog W = .ok (.tuple #[z, .bool false]) W := ⟨((Try.prog.info? 69).bind (·.zero)).getD undef, fun W => by kernel_rfl⟩
theorem no_74_59 (v : Value) : ∃ z, ∀ W : World, (Instr.typeAssert (.iface 74 v) 20 59 true).run Try.prog W = .ok (.tuple #[z, .bool false]) W := ⟨((Try.prog.info? 59).bind (·.zero)).getD undef, fun W => by kernel_rfl⟩
theorem no_74_52 (v : Value) : ∃ z, ∀ W : World, (Instr.typeAssert (.iface 74 v) 20 52 true).run Try.prog W = .ok (.tuple #[z, .bool false]) W := ⟨((Try.prog.info? 52).bind (·.zero)).getD undef, fun W => by kernel_rfl⟩
theorem no_74_55 (v : Value) : ∃ z, ∀ W : World, (Instr.typeAssert (.iface 74 v) 20 55 true).run Try.prog W = .ok (.tuple #[z, .bool false]) W := ⟨((Try.prog.info? 55).bind (·.zero)).getD undef, fun W => by kernel_rfl⟩
theorem no_74_71 (v : Value) : ∃ z, ∀ W : World, (Instr.typeAssert (.iface 74 v) 20 71 true).run Try.prog W = .ok (.tuple #[z, .bool false]) W := ⟨((Try.prog.info? 71).bind (·.zero)).getD undef, fun W => by kernel_rfl⟩
theorem no_74_72 (v : Value) : ∃ z, ∀ W : World, (Instr.typeAssert (.iface 74 v) 20 72 true).run Try.prog W = .ok (.tuple #[z, .bool false]) W := ⟨((Try.prog.info? 72).bind (·.zero)).getD undef, fun W => by kernel_rfl⟩
theorem yes_74 (v : Value) : ∀ W : World, (Instr.typeAssert (.iface 74 v) 20 74 true).run Try.prog W = .ok (.tuple #[v, .bool true]) W := fun W => by kernel_rfl
theorem req_74 (v : Value) : ∀ W : World, (Instr.typeAssert (.iface 74 v) 20 40 false).run Try.prog W = .ok (.iface 74 v) W := fun W => by kernel_rfl
set_option maxHeartbeats 1000000 in
set_option maxRecDepth 100000 in
theorem ofMove (x0 : ByteArray) (x1 : ByteArray) (w : World) : Calls Try.prog 19 #[.iface 74 (.agg #[.string x0, .string x1])] w fun e w' => ∃ b, e = .returned (.tuple #[.iface 109 (.pointer (some ⟨b, 0, none⟩)), .bool true]) ∧ w'.heap[b]? = some (.cells #[.string x0, .string x1] 74 (0, 0)) ∧ Below w.heap.size w w' := by
  have hb := hid (below_alloc (Below.refl w.heap.size w) (.cells #[.string x0, .string x1] 74))
  have hn : Hid ((w.alloc (.cells #[.string x0, .string x1] 74)).heap[w.heap.size]? = some (.cells #[.string x0, .string x1] 74 (0, 0))) := hid Array.getElem?_push_size
  obtain ⟨z61, h61⟩ := no_74_61 (.agg #[.string x0, .string x1])
  obtain ⟨z48, h48⟩ := no_74_48 (.agg #[.string x0, .string x1])
  obtain ⟨z50, h50⟩ := no_74_50 (.agg #[.string x0, .string x1])
  obtain ⟨z69, h69⟩ := no_74_69 (.agg #[.string x0, .string x1])
  obtain ⟨z59, h59⟩ := no_74_59 (.agg #[.string x0, .string x1])
  obtain ⟨z52, h52⟩ := no_74_52 (.agg #[.string x0, .string x1])
  obtain ⟨z55, h55⟩ := no_74_55 (.agg #[.string x0, .string x1])
  obtain ⟨z71, h71⟩ := no_74_71 (.agg #[.string x0, .string x1])
  obtain ⟨z72, h72⟩ := no_74_72 (.agg #[.string x0, .string x1])
  have hq := yes_74 (.agg #[.string x0, .string x1])
  go_enter Try.func19, Try.ntmps19
  go_wp2_with fail
  go_ret2
  exact ⟨_, rfl, hn.out, hb.out⟩
theorem no_57_61 (v : Value) : ∃ z, ∀ W : World, (Instr.typeAssert (.iface 57 v) 20 61 true).run Try.prog W = .ok (.tuple #[z, .bool false]) W := ⟨((Try.prog.info? 61).bind (·.zero)).getD undef, fun W => by kernel_rfl⟩
theorem no_57_48 (v : Value) : ∃ z, ∀ W : World, (Instr.typeAssert (.iface 57 v) 20 48 true).run Try.prog W = .ok (.tuple #[z, .bool false]) W := ⟨((Try.prog.info? 48).bind (·.zero)).getD undef, fun W => by kernel_rfl⟩
theorem no_57_50 (v : Value) : ∃ z, ∀ W : World, (Instr.typeAssert (.iface 57 v) 20 50 true).run Try.prog W = .ok (.tuple #[z, .bool false]) W := ⟨((Try.prog.info? 50).bind (·.zero)).getD undef, fun W => by kernel_rfl⟩
theorem no_57_69 (v : Value) : ∃ z, ∀ W : World, (Instr.typeAssert (.iface 57 v) 20 69 true).run Try.prog W = .ok (.tuple #[z, .bool false]) W := ⟨((Try.prog.info? 69).bind (·.zero)).getD undef, fun W => by kernel_rfl⟩
theorem no_57_59 (v : Value) : ∃ z, ∀ W : World, (Instr.typeAssert (.iface 57 v) 20 59 true).run Try.prog W = .ok (.tuple #[z, .bool false]) W := ⟨((Try.prog.info? 59).bind (·.zero)).getD undef, fun W => by kernel_rfl⟩
theorem no_57_52 (v : Value) : ∃ z, ∀ W : World, (Instr.typeAssert (.iface 57 v) 20 52 true).run Try.prog W = .ok (.tuple #[z, .bool false]) W := ⟨((Try.prog.info? 52).bind (·.zero)).getD undef, fun W => by kernel_rfl⟩
theorem no_57_55 (v : Value) : ∃ z, ∀ W : World, (Instr.typeAssert (.iface 57 v) 20 55 true).run Try.prog W = .ok (.tuple #[z, .bool false]) W := ⟨((Try.prog.info? 55).bind (·.zero)).getD undef, fun W => by kernel_rfl⟩
theorem no_57_71 (v : Value) : ∃ z, ∀ W : World, (Instr.typeAssert (.iface 57 v) 20 71 true).run Try.prog W = .ok (.tuple #[z, .bool false]) W := ⟨((Try.prog.info? 71).bind (·.zero)).getD undef, fun W => by kernel_rfl⟩
theorem no_57_72 (v : Value) : ∃ z, ∀ W : World, (Instr.typeAssert (.iface 57 v) 20 72 true).run Try.prog W = .ok (.tuple #[z, .bool false]) W := ⟨((Try.prog.info? 72).bind (·.zero)).getD undef, fun W => by kernel_rfl⟩
theorem no_57_74 (v : Value) : ∃ z, ∀ W : World, (Instr.typeAssert (.iface 57 v) 20 74 true).run Try.prog W = .ok (.tuple #[z, .bool false]) W := ⟨((Try.prog.info? 74).bind (·.zero)).getD undef, fun W => by kernel_rfl⟩
theorem yes_57 (v : Value) : ∀ W : World, (Instr.typeAssert (.iface 57 v) 20 57 true).run Try.prog W = .ok (.tuple #[v, .bool true]) W := fun W => by kernel_rfl
theorem req_57 (v : Value) : ∀ W : World, (Instr.typeAssert (.iface 57 v) 20 40 false).run Try.prog W = .ok (.iface 57 v) W := fun W => by kernel_rfl
set_option maxHeartbeats 1000000 in
set_option maxRecDepth 100000 in
theorem ofList (x0 : ByteArray) (x1 : Int) (x2 : Int) (w : World) : Calls Try.prog 19 #[.iface 57 (.agg #[.string x0, .int .i64 x1, .int .i64 x2])] w fun e w' => ∃ b, e = .returned (.tuple #[.iface 110 (.pointer (some ⟨b, 0, none⟩)), .bool true]) ∧ w'.heap[b]? = some (.cells #[.string x0, .int .i64 x1, .int .i64 x2] 57 (0, 0)) ∧ Below w.heap.size w w' := by
  have hb := hid (below_alloc (Below.refl w.heap.size w) (.cells #[.string x0, .int .i64 x1, .int .i64 x2] 57))
  have hn : Hid ((w.alloc (.cells #[.string x0, .int .i64 x1, .int .i64 x2] 57)).heap[w.heap.size]? = some (.cells #[.string x0, .int .i64 x1, .int .i64 x2] 57 (0, 0))) := hid Array.getElem?_push_size
  obtain ⟨z61, h61⟩ := no_57_61 (.agg #[.string x0, .int .i64 x1, .int .i64 x2])
  obtain ⟨z48, h48⟩ := no_57_48 (.agg #[.string x0, .int .i64 x1, .int .i64 x2])
  obtain ⟨z50, h50⟩ := no_57_50 (.agg #[.string x0, .int .i64 x1, .int .i64 x2])
  obtain ⟨z69, h69⟩ := no_57_69 (.agg #[.string x0, .int .i64 x1, .int .i64 x2])
  obtain ⟨z59, h59⟩ := no_57_59 (.agg #[.string x0, .int .i64 x1, .int .i64 x2])
  obtain ⟨z52, h52⟩ := no_57_52 (.agg #[.string x0, .int .i64 x1, .int .i64 x2])
  obtain ⟨z55, h55⟩ := no_57_55 (.agg #[.string x0, .int .i64 x1, .int .i64 x2])
  obtain ⟨z71, h71⟩ := no_57_71 (.agg #[.string x0, .int .i64 x1, .int .i64 x2])
  obtain ⟨z72, h72⟩ := no_57_72 (.agg #[.string x0, .int .i64 x1, .int .i64 x2])
  obtain ⟨z74, h74⟩ := no_57_74 (.agg #[.string x0, .int .i64 x1, .int .i64 x2])
  have hq := yes_57 (.agg #[.string x0, .int .i64 x1, .int .i64 x2])
  go_enter Try.func19, Try.ntmps19
  go_wp2_with fail
  go_ret2
  exact ⟨_, rfl, hn.out, hb.out⟩
theorem no_65_61 (v : Value) : ∃ z, ∀ W : World, (Instr.typeAssert (.iface 65 v) 20 61 true).run Try.prog W = .ok (.tuple #[z, .bool false]) W := ⟨((Try.prog.info? 61).bind (·.zero)).getD undef, fun W => by kernel_rfl⟩
theorem no_65_48 (v : Value) : ∃ z, ∀ W : World, (Instr.typeAssert (.iface 65 v) 20 48 true).run Try.prog W = .ok (.tuple #[z, .bool false]) W := ⟨((Try.prog.info? 48).bind (·.zero)).getD undef, fun W => by kernel_rfl⟩
theorem no_65_50 (v : Value) : ∃ z, ∀ W : World, (Instr.typeAssert (.iface 65 v) 20 50 true).run Try.prog W = .ok (.tuple #[z, .bool false]) W := ⟨((Try.prog.info? 50).bind (·.zero)).getD undef, fun W => by kernel_rfl⟩
theorem no_65_69 (v : Value) : ∃ z, ∀ W : World, (Instr.typeAssert (.iface 65 v) 20 69 true).run Try.prog W = .ok (.tuple #[z, .bool false]) W := ⟨((Try.prog.info? 69).bind (·.zero)).getD undef, fun W => by kernel_rfl⟩
theorem no_65_59 (v : Value) : ∃ z, ∀ W : World, (Instr.typeAssert (.iface 65 v) 20 59 true).run Try.prog W = .ok (.tuple #[z, .bool false]) W := ⟨((Try.prog.info? 59).bind (·.zero)).getD undef, fun W => by kernel_rfl⟩
theorem no_65_52 (v : Value) : ∃ z, ∀ W : World, (Instr.typeAssert (.iface 65 v) 20 52 true).run Try.prog W = .ok (.tuple #[z, .bool false]) W := ⟨((Try.prog.info? 52).bind (·.zero)).getD undef, fun W => by kernel_rfl⟩
theorem no_65_55 (v : Value) : ∃ z, ∀ W : World, (Instr.typeAssert (.iface 65 v) 20 55 true).run Try.prog W = .ok (.tuple #[z, .bool false]) W := ⟨((Try.prog.info? 55).bind (·.zero)).getD undef, fun W => by kernel_rfl⟩
theorem no_65_71 (v : Value) : ∃ z, ∀ W : World, (Instr.typeAssert (.iface 65 v) 20 71 true).run Try.prog W = .ok (.tuple #[z, .bool false]) W := ⟨((Try.prog.info? 71).bind (·.zero)).getD undef, fun W => by kernel_rfl⟩
theorem no_65_72 (v : Value) : ∃ z, ∀ W : World, (Instr.typeAssert (.iface 65 v) 20 72 true).run Try.prog W = .ok (.tuple #[z, .bool false]) W := ⟨((Try.prog.info? 72).bind (·.zero)).getD undef, fun W => by kernel_rfl⟩
theorem no_65_74 (v : Value) : ∃ z, ∀ W : World, (Instr.typeAssert (.iface 65 v) 20 74 true).run Try.prog W = .ok (.tuple #[z, .bool false]) W := ⟨((Try.prog.info? 74).bind (·.zero)).getD undef, fun W => by kernel_rfl⟩
theorem no_65_57 (v : Value) : ∃ z, ∀ W : World, (Instr.typeAssert (.iface 65 v) 20 57 true).run Try.prog W = .ok (.tuple #[z, .bool false]) W := ⟨((Try.prog.info? 57).bind (·.zero)).getD undef, fun W => by kernel_rfl⟩
theorem yes_65 (v : Value) : ∀ W : World, (Instr.typeAssert (.iface 65 v) 20 65 true).run Try.prog W = .ok (.tuple #[v, .bool true]) W := fun W => by kernel_rfl
theorem req_65 (v : Value) : ∀ W : World, (Instr.typeAssert (.iface 65 v) 20 40 false).run Try.prog W = .ok (.iface 65 v) W := fun W => by kernel_rfl
set_option maxHeartbeats 1000000 in
set_option maxRecDepth 100000 in
theorem ofQuota  (w : World) : Calls Try.prog 19 #[.iface 65 (.agg #[])] w fun e w' => ∃ b, e = .returned (.tuple #[.iface 67 (.pointer (some ⟨b, 0, none⟩)), .bool true]) ∧ w'.heap[b]? = some (.cells #[] 65 (0, 0)) ∧ Below w.heap.size w w' := by
  have hb := hid (below_alloc (Below.refl w.heap.size w) (.cells #[] 65))
  have hn : Hid ((w.alloc (.cells #[] 65)).heap[w.heap.size]? = some (.cells #[] 65 (0, 0))) := hid Array.getElem?_push_size
  obtain ⟨z61, h61⟩ := no_65_61 (.agg #[])
  obtain ⟨z48, h48⟩ := no_65_48 (.agg #[])
  obtain ⟨z50, h50⟩ := no_65_50 (.agg #[])
  obtain ⟨z69, h69⟩ := no_65_69 (.agg #[])
  obtain ⟨z59, h59⟩ := no_65_59 (.agg #[])
  obtain ⟨z52, h52⟩ := no_65_52 (.agg #[])
  obtain ⟨z55, h55⟩ := no_65_55 (.agg #[])
  obtain ⟨z71, h71⟩ := no_65_71 (.agg #[])
  obtain ⟨z72, h72⟩ := no_65_72 (.agg #[])
  obtain ⟨z74, h74⟩ := no_65_74 (.agg #[])
  obtain ⟨z57, h57⟩ := no_65_57 (.agg #[])
  have hq := yes_65 (.agg #[])
  go_enter Try.func19, Try.ntmps19
  go_wp2_with fail
  go_ret2
  exact ⟨_, rfl, hn.out, hb.out⟩
theorem no_75_61 (v : Value) : ∃ z, ∀ W : World, (Instr.typeAssert (.iface 75 v) 20 61 true).run Try.prog W = .ok (.tuple #[z, .bool false]) W := ⟨((Try.prog.info? 61).bind (·.zero)).getD undef, fun W => by kernel_rfl⟩
theorem no_75_48 (v : Value) : ∃ z, ∀ W : World, (Instr.typeAssert (.iface 75 v) 20 48 true).run Try.prog W = .ok (.tuple #[z, .bool false]) W := ⟨((Try.prog.info? 48).bind (·.zero)).getD undef, fun W => by kernel_rfl⟩
theorem no_75_50 (v : Value) : ∃ z, ∀ W : World, (Instr.typeAssert (.iface 75 v) 20 50 true).run Try.prog W = .ok (.tuple #[z, .bool false]) W := ⟨((Try.prog.info? 50).bind (·.zero)).getD undef, fun W => by kernel_rfl⟩
theorem no_75_69 (v : Value) : ∃ z, ∀ W : World, (Instr.typeAssert (.iface 75 v) 20 69 true).run Try.prog W = .ok (.tuple #[z, .bool false]) W := ⟨((Try.prog.info? 69).bind (·.zero)).getD undef, fun W => by kernel_rfl⟩
theorem no_75_59 (v : Value) : ∃ z, ∀ W : World, (Instr.typeAssert (.iface 75 v) 20 59 true).run Try.prog W = .ok (.tuple #[z, .bool false]) W := ⟨((Try.prog.info? 59).bind (·.zero)).getD undef, fun W => by kernel_rfl⟩
theorem no_75_52 (v : Value) : ∃ z, ∀ W : World, (Instr.typeAssert (.iface 75 v) 20 52 true).run Try.prog W = .ok (.tuple #[z, .bool false]) W := ⟨((Try.prog.info? 52).bind (·.zero)).getD undef, fun W => by kernel_rfl⟩
theorem no_75_55 (v : Value) : ∃ z, ∀ W : World, (Instr.typeAssert (.iface 75 v) 20 55 true).run Try.prog W = .ok (.tuple #[z, .bool false]) W := ⟨((Try.prog.info? 55).bind (·.zero)).getD undef, fun W => by kernel_rfl⟩
theorem no_75_71 (v : Value) : ∃ z, ∀ W : World, (Instr.typeAssert (.iface 75 v) 20 71 true).run Try.prog W = .ok (.tuple #[z, .bool false]) W := ⟨((Try.prog.info? 71).bind (·.zero)).getD undef, fun W => by kernel_rfl⟩
theorem no_75_72 (v : Value) : ∃ z, ∀ W : World, (Instr.typeAssert (.iface 75 v) 20 72 true).run Try.prog W = .ok (.tuple #[z, .bool false]) W := ⟨((Try.prog.info? 72).bind (·.zero)).getD undef, fun W => by kernel_rfl⟩
theorem no_75_74 (v : Value) : ∃ z, ∀ W : World, (Instr.typeAssert (.iface 75 v) 20 74 true).run Try.prog W = .ok (.tuple #[z, .bool false]) W := ⟨((Try.prog.info? 74).bind (·.zero)).getD undef, fun W => by kernel_rfl⟩
theorem no_75_57 (v : Value) : ∃ z, ∀ W : World, (Instr.typeAssert (.iface 75 v) 20 57 true).run Try.prog W = .ok (.tuple #[z, .bool false]) W := ⟨((Try.prog.info? 57).bind (·.zero)).getD undef, fun W => by kernel_rfl⟩
theorem no_75_65 (v : Value) : ∃ z, ∀ W : World, (Instr.typeAssert (.iface 75 v) 20 65 true).run Try.prog W = .ok (.tuple #[z, .bool false]) W := ⟨((Try.prog.info? 65).bind (·.zero)).getD undef, fun W => by kernel_rfl⟩
theorem yes_75 (v : Value) : ∀ W : World, (Instr.typeAssert (.iface 75 v) 20 75 true).run Try.prog W = .ok (.tuple #[v, .bool true]) W := fun W => by kernel_rfl
theorem req_75 (v : Value) : ∀ W : World, (Instr.typeAssert (.iface 75 v) 20 40 false).run Try.prog W = .ok (.iface 75 v) W := fun W => by kernel_rfl
set_option maxHeartbeats 1000000 in
set_option maxRecDepth 100000 in
theorem ofRotate  (w : World) : Calls Try.prog 19 #[.iface 75 (.agg #[])] w fun e w' => ∃ b, e = .returned (.tuple #[.iface 111 (.pointer (some ⟨b, 0, none⟩)), .bool true]) ∧ w'.heap[b]? = some (.cells #[] 75 (0, 0)) ∧ Below w.heap.size w w' := by
  have hb := hid (below_alloc (Below.refl w.heap.size w) (.cells #[] 75))
  have hn : Hid ((w.alloc (.cells #[] 75)).heap[w.heap.size]? = some (.cells #[] 75 (0, 0))) := hid Array.getElem?_push_size
  obtain ⟨z61, h61⟩ := no_75_61 (.agg #[])
  obtain ⟨z48, h48⟩ := no_75_48 (.agg #[])
  obtain ⟨z50, h50⟩ := no_75_50 (.agg #[])
  obtain ⟨z69, h69⟩ := no_75_69 (.agg #[])
  obtain ⟨z59, h59⟩ := no_75_59 (.agg #[])
  obtain ⟨z52, h52⟩ := no_75_52 (.agg #[])
  obtain ⟨z55, h55⟩ := no_75_55 (.agg #[])
  obtain ⟨z71, h71⟩ := no_75_71 (.agg #[])
  obtain ⟨z72, h72⟩ := no_75_72 (.agg #[])
  obtain ⟨z74, h74⟩ := no_75_74 (.agg #[])
  obtain ⟨z57, h57⟩ := no_75_57 (.agg #[])
  obtain ⟨z65, h65⟩ := no_75_65 (.agg #[])
  have hq := yes_75 (.agg #[])
  go_enter Try.func19, Try.ntmps19
  go_wp2_with fail
  go_ret2
  exact ⟨_, rfl, hn.out, hb.out⟩
end Go.Proofs.Ytfbcidfbgebbhaa.C
