/-
  Words for a drawn region that makes memory; requests that are refused at each place.
-/
import Derived.Test.YtfbcidfbgebbhaaE2
import Derived.Test.YtfbcidfbgebbhaaA2
import Derived.Lib.DecodeN
import Derived.Lib.SpaceUEq
import Derived.Stop.Asserts
namespace Go.Proofs.Ytfbcidfbgebbhaa.Pure
set_option linter.unusedVariables false
set_option linter.unusedSimpArgs false
open Go.RowKit Go.Proofs.YtfbcidfbgebbhaaW.PrintWords Go.Proofs.YtfbcidfbgebbhaaW.PrintLast Go.Proofs.YtfbcidfbgebbhaaW.PrintMore
open Go.Proofs.Ytfbcidfbgebbhaa.Q
open Go.Lib (hid)
theorem more_ {P : Program} {md : Region.Mode} {ops : Array Oper} {Q : Exit → Act → World → Prop} {S T : World → Prop} : ∀ (n : Nat) (l : Array Bool) (a : Act) (w : World), S w → T w → wpAnyLast P md ops Q (fun w => S w ∧ T w) [] n l a w → wpAnyLast P md ops Q S [] n l a w
  | 0, _, _, _, _, _, h => h
  | n + 1, l, a, w, hS, hT, h => ⟨h.1, fun i hi => wpOp_mono (fun a' w' h' => by
      have h2 := h'.1 (by simp) ⟨hS, hT⟩
      exact ⟨fun _ _ => h2.1, more_ n _ a' w' h2.1 h2.2 h'.2⟩) (h.2 i hi)⟩
/-- Twenty-nine bytes 0. -/
def z29 : ByteArray := strOfNums (List.replicate 29 0)
theorem z29_size : z29.size = 29 := by rw [z29, strOfNums_size]; rfl
theorem make29 : ∀ W : World, (Instr.makeSlice 53 (.int .i64 29) (.int .i64 29)).run Try.prog W = .ok (.slice (some ⟨W.heap.size, 0, none⟩) 29 29) (W.alloc (.cells (madeCells #[.int .u8 0] 29) 5)) :=
  print_make 53 5 .u8 1 (by kernel_rfl) (by kernel_rfl) (by decide) 29 (by decide)
theorem conv29 (w : World) (g : Nat) (h : w.heap[g]? = some (.cells (madeCells #[.int .u8 0] 29) 5 (0, 0))) : (convert 53 9 (.slice (some ⟨g, 0, none⟩) 29 29)).run Try.prog w = .ok (.string z29) w := by
  refine run_convert_bytes_arg w 53 5 (by kernel_rfl) (by kernel_rfl) g 0 29 29 (List.replicate 29 0) (by simp) (fun i hi => ?_) 9 (by kernel_rfl)
  rw [Nat.zero_add, blk_cell h i]
  have h1 : i < (madeCells #[Value.int .u8 0] 29).size := by simpa [size_madeCells] using hi
  rw [Array.getElem?_eq_getElem h1]
  have h2 : (List.replicate 29 (0 : Int)).getD i 0 = 0 := by
    rw [List.getD_eq_getElem?_getD, List.getElem?_replicate]
    split <;> rfl
  rw [h2]
  simp [madeCells, Nat.mod_one]
theorem get_get! (s : ByteArray) (i : Nat) (h : i < s.size) : s.get! i = s[i]'h := by
  simp [ByteArray.get!, getElem!_pos, h]
  rfl
theorem stays (s : ByteArray) (pos n : Nat) (hn : n < s.size) (hb : (s.get! n).toNat = 46) (hp : pos < n) : pos + (Utf8.decode s pos).2 ≤ n := by
  have h := Go.Lib.decodeN_conts (s.size - pos) (s.get! pos).toNat (s.get! (pos + 1)).toNat (s.get! (pos + 2)).toNat (s.get! (pos + 3)).toNat
  rw [← Go.Lib.decode_at] at h
  obtain ⟨h1, h2, h3, h4⟩ := h
  apply Classical.byContradiction
  intro hc
  have hj : n = pos + 1 ∨ n = pos + 2 ∨ n = pos + 3 := by omega
  rcases hj with rfl | rfl | rfl
  · have := (h1 (by omega)).1; omega
  · have := (h2 (by omega)).1; omega
  · have := (h3 (by omega)).1; omega
theorem okF_dot (s : ByteArray) (n : Nat) (hs : s.size = n + 1) (hb : (s.get! n).toNat = 46) : ∀ k pos was, pos ≤ n → n + 1 ≤ pos + k → R.okF s k pos was = false
  | 0, pos, was, h1, h2 => by omega
  | k + 1, pos, was, h1, h2 => by
    rw [R.okF_step s k pos was (by omega)]
    by_cases hp : pos = n
    · subst hp
      have hlt : pos < s.size := by omega
      rw [get_get! s pos hlt] at hb
      rw [decode_ascii s pos hlt (by omega), hb, R.okF_end s k _ _ (by show ¬ pos + 1 < s.size; omega)]
      simp [R.plainB]
    · have h3 := stays s pos n (by omega) hb (by omega)
      have h4 := R.width_pos s pos (by omega)
      rw [okF_dot s n hs hb k _ _ h3 (by omega)]
      simp
theorem right_dot (x : ByteArray) : R.rightB (x ++ ⟨#[46]⟩) = false := by
  have hs : (x ++ (⟨#[46]⟩ : ByteArray)).size = x.size + 1 := by rw [ByteArray.size_append]; rfl
  have hb : ((x ++ (⟨#[46]⟩ : ByteArray)).get! x.size).toNat = 46 := by
    rw [get_get! _ _ (by omega), ByteArray.getElem_append_right (by omega)]
    simp
    rfl
  rw [R.rightB, okF_dot _ x.size hs hb _ _ _ (by omega) (by omega)]
  simp
/-- A value that is refused at each place. -/
structure Bad (v : Value) : Prop where
  right : ∀ W : World, Calls Try.prog 12 #[v] W fun e w' => e = .returned (.bool false) ∧ Below W.heap.size W w'
  enc : ∀ W : World, Calls Try.prog 10 #[.int .i64 1, v] W fun e w' => e = .returned (.tuple #[.string ⟨#[]⟩, .int .i64 1]) ∧ Below W.heap.size W w'
  bears : ∀ W : World, Calls Try.prog 15 #[v] W fun e w' => e = .returned (.tuple #[.string ⟨#[]⟩, .bool false]) ∧ Below W.heap.size W w'
  muts : ∀ W : World, Calls Try.prog 16 #[v] W fun e w' => e = .returned (.bool false) ∧ Below W.heap.size W w'
theorem bad_of (v : Value) (op : Int) (l : List Pt) (hS : Sum v op l 1) (hok : okL l = false) (z : Value) (o : Bool) (ha : ∀ W : World, (Instr.typeAssert v 20 97 true).run Try.prog W = .ok (.tuple #[z, .bool o]) W) : Bad v := by
  have hR := hS.right
  rw [hok] at hR
  refine ⟨hR, hS.no (by rw [hok]; simp), C.Bears_no v z o false ha hR (by cases o <;> simp), C.Mutates_no v hR⟩
theorem bearRegister (v : Value) : ∃ z, ∀ W : World, (Instr.typeAssert (.iface 48 v) 20 97 true).run Try.prog W = .ok (.tuple #[z, .bool false]) W := ⟨.nilIface, fun W => run_typeAssert_lacksB Try.underlying97 (by kernel_rfl) (by kernel_rfl) v 20 W⟩
theorem bearMint (v : Value) : ∃ z, ∀ W : World, (Instr.typeAssert (.iface 50 v) 20 97 true).run Try.prog W = .ok (.tuple #[z, .bool false]) W := ⟨.nilIface, fun W => run_typeAssert_lacksB Try.underlying97 (by kernel_rfl) (by kernel_rfl) v 20 W⟩
theorem bearHello (v : Value) : ∃ z, ∀ W : World, (Instr.typeAssert (.iface 61 v) 20 97 true).run Try.prog W = .ok (.tuple #[z, .bool false]) W := ⟨.nilIface, fun W => run_typeAssert_lacksB Try.underlying97 (by kernel_rfl) (by kernel_rfl) v 20 W⟩
theorem bearValidate (v : Value) : ∀ W : World, (Instr.typeAssert (.iface 52 v) 20 97 true).run Try.prog W = .ok (.tuple #[.iface 52 v, .bool true]) W := fun W => by kernel_rfl
theorem bearInvoke (v : Value) : ∀ W : World, (Instr.typeAssert (.iface 55 v) 20 97 true).run Try.prog W = .ok (.tuple #[.iface 55 v, .bool true]) W := fun W => by kernel_rfl
theorem bearList (v : Value) : ∀ W : World, (Instr.typeAssert (.iface 57 v) 20 97 true).run Try.prog W = .ok (.tuple #[.iface 57 v, .bool true]) W := fun W => by kernel_rfl
theorem bearRenew (v : Value) : ∀ W : World, (Instr.typeAssert (.iface 59 v) 20 97 true).run Try.prog W = .ok (.tuple #[.iface 59 v, .bool true]) W := fun W => by kernel_rfl
theorem bearDerive (v : Value) : ∀ W : World, (Instr.typeAssert (.iface 69 v) 20 97 true).run Try.prog W = .ok (.tuple #[.iface 69 v, .bool true]) W := fun W => by kernel_rfl
theorem bearRevoke (v : Value) : ∀ W : World, (Instr.typeAssert (.iface 71 v) 20 97 true).run Try.prog W = .ok (.tuple #[.iface 71 v, .bool true]) W := fun W => by kernel_rfl
theorem bearDelete (v : Value) : ∀ W : World, (Instr.typeAssert (.iface 72 v) 20 97 true).run Try.prog W = .ok (.tuple #[.iface 72 v, .bool true]) W := fun W => by kernel_rfl
theorem bearMove (v : Value) : ∀ W : World, (Instr.typeAssert (.iface 74 v) 20 97 true).run Try.prog W = .ok (.tuple #[.iface 74 v, .bool true]) W := fun W => by kernel_rfl
theorem bad0 (n : Int) (h : 1000 < n) : Bad (.iface 48 (.agg #[.string ⟨#[97]⟩, .int .i64 n])) := by
  obtain ⟨z, hz⟩ := bearRegister (.agg #[.string ⟨#[97]⟩, .int .i64 n])
  exact bad_of _ _ _ (sumRegister ⟨#[97]⟩ n (by decide) 1) (by simp [okL, Pt.ok]; try omega) z false hz
theorem bad1 (n : Int) (h : n < 0) : Bad (.iface 48 (.agg #[.string ⟨#[97]⟩, .int .i64 n])) := by
  obtain ⟨z, hz⟩ := bearRegister (.agg #[.string ⟨#[97]⟩, .int .i64 n])
  exact bad_of _ _ _ (sumRegister ⟨#[97]⟩ n (by decide) 1) (by simp [okL, Pt.ok]; try omega) z false hz
theorem bad2  : Bad (.iface 50 (.agg #[.int .i64 0, .int .i64 1, .int .i64 0, .int .i64 0])) := by
  obtain ⟨z, hz⟩ := bearMint (.agg #[.int .i64 0, .int .i64 1, .int .i64 0, .int .i64 0])
  exact bad_of _ _ _ (sumMint 0 1 0 0  1) (by simp [okL, Pt.ok]) z false hz
theorem bad3 (n : Int) (h : 65536 ≤ n) : Bad (.iface 50 (.agg #[.int .i64 1, .int .i64 n, .int .i64 0, .int .i64 0])) := by
  obtain ⟨z, hz⟩ := bearMint (.agg #[.int .i64 1, .int .i64 n, .int .i64 0, .int .i64 0])
  exact bad_of _ _ _ (sumMint 1 n 0 0  1) (by simp [okL, Pt.ok]; try omega) z false hz
theorem bad4 (n : Int) (h : n < 0) : Bad (.iface 50 (.agg #[.int .i64 1, .int .i64 0, .int .i64 n, .int .i64 0])) := by
  obtain ⟨z, hz⟩ := bearMint (.agg #[.int .i64 1, .int .i64 0, .int .i64 n, .int .i64 0])
  exact bad_of _ _ _ (sumMint 1 0 n 0  1) (by simp [okL, Pt.ok]; try omega) z false hz
theorem bad5  : Bad (.iface 52 (.agg #[.string ⟨#[115, 104, 111, 114, 116]⟩])) := by
  exact bad_of _ _ _ (sumValidate ⟨#[115, 104, 111, 114, 116]⟩ (by decide) 1) (by decide) _ true (bearValidate _)
theorem bad6 (n : Int) (h : 113 ≤ n) : Bad (.iface 55 (.agg #[.string z29, .int .i32 n])) := by
  exact bad_of _ _ _ (sumInvoke z29 n (by rw [z29_size]; decide) 1) (by simp [okL, Pt.ok]; try omega) _ true (bearInvoke _)
theorem bad7 (n : Int) (h : 10 < n) : Bad (.iface 57 (.agg #[.string z29, .int .i64 0, .int .i64 n])) := by
  exact bad_of _ _ _ (sumList z29 0 n (by rw [z29_size]; decide) 1) (by simp [okL, Pt.ok]; try omega) _ true (bearList _)
theorem bad8 (n : Int) (h : 268435455 < n) : Bad (.iface 59 (.agg #[.string z29, .int .i64 n])) := by
  exact bad_of _ _ _ (sumRenew z29 n (by rw [z29_size]; decide) 1) (by simp [okL, Pt.ok]; try omega) _ true (bearRenew _)
theorem bad9 (x : ByteArray) (h : x.size ≤ 140737488351232) : Bad (.iface 61 (.agg #[.string (x ++ ⟨#[46]⟩)])) := by
  obtain ⟨z, hz⟩ := bearHello (.agg #[.string (x ++ ⟨#[46]⟩)])
  have hR : ∀ W : World, Calls Try.prog 12 #[.iface 61 (.agg #[.string (x ++ ⟨#[46]⟩)])] W fun e w' => e = .returned (.bool false) ∧ Below W.heap.size W w' := fun W => by
    have h := C.RightHello (x ++ ⟨#[46]⟩) _ (by rw [R.Right.f, if_pos (by rw [ByteArray.size_append]; show x.size + 1 ≤ _; omega)]) W
    rw [right_dot] at h
    exact h
  exact ⟨hR, C.Encode_no 1 _ true false (by rfl) hR (by simp), C.Bears_no _ z false false hz hR (by simp), C.Mutates_no _ hR⟩
theorem noI_61 (n : Int) : ∃ z, ∀ W : World, (Instr.typeAssert (.iface 3 (.int .i64 n)) 20 61 true).run Try.prog W = .ok (.tuple #[z, .bool false]) W := ⟨((Try.prog.info? 61).bind (·.zero)).getD undef, fun W => by kernel_rfl⟩
theorem noI_48 (n : Int) : ∃ z, ∀ W : World, (Instr.typeAssert (.iface 3 (.int .i64 n)) 20 48 true).run Try.prog W = .ok (.tuple #[z, .bool false]) W := ⟨((Try.prog.info? 48).bind (·.zero)).getD undef, fun W => by kernel_rfl⟩
theorem noI_50 (n : Int) : ∃ z, ∀ W : World, (Instr.typeAssert (.iface 3 (.int .i64 n)) 20 50 true).run Try.prog W = .ok (.tuple #[z, .bool false]) W := ⟨((Try.prog.info? 50).bind (·.zero)).getD undef, fun W => by kernel_rfl⟩
theorem noI_69 (n : Int) : ∃ z, ∀ W : World, (Instr.typeAssert (.iface 3 (.int .i64 n)) 20 69 true).run Try.prog W = .ok (.tuple #[z, .bool false]) W := ⟨((Try.prog.info? 69).bind (·.zero)).getD undef, fun W => by kernel_rfl⟩
theorem noI_59 (n : Int) : ∃ z, ∀ W : World, (Instr.typeAssert (.iface 3 (.int .i64 n)) 20 59 true).run Try.prog W = .ok (.tuple #[z, .bool false]) W := ⟨((Try.prog.info? 59).bind (·.zero)).getD undef, fun W => by kernel_rfl⟩
theorem noI_52 (n : Int) : ∃ z, ∀ W : World, (Instr.typeAssert (.iface 3 (.int .i64 n)) 20 52 true).run Try.prog W = .ok (.tuple #[z, .bool false]) W := ⟨((Try.prog.info? 52).bind (·.zero)).getD undef, fun W => by kernel_rfl⟩
theorem noI_55 (n : Int) : ∃ z, ∀ W : World, (Instr.typeAssert (.iface 3 (.int .i64 n)) 20 55 true).run Try.prog W = .ok (.tuple #[z, .bool false]) W := ⟨((Try.prog.info? 55).bind (·.zero)).getD undef, fun W => by kernel_rfl⟩
theorem noI_71 (n : Int) : ∃ z, ∀ W : World, (Instr.typeAssert (.iface 3 (.int .i64 n)) 20 71 true).run Try.prog W = .ok (.tuple #[z, .bool false]) W := ⟨((Try.prog.info? 71).bind (·.zero)).getD undef, fun W => by kernel_rfl⟩
theorem noI_72 (n : Int) : ∃ z, ∀ W : World, (Instr.typeAssert (.iface 3 (.int .i64 n)) 20 72 true).run Try.prog W = .ok (.tuple #[z, .bool false]) W := ⟨((Try.prog.info? 72).bind (·.zero)).getD undef, fun W => by kernel_rfl⟩
theorem noI_74 (n : Int) : ∃ z, ∀ W : World, (Instr.typeAssert (.iface 3 (.int .i64 n)) 20 74 true).run Try.prog W = .ok (.tuple #[z, .bool false]) W := ⟨((Try.prog.info? 74).bind (·.zero)).getD undef, fun W => by kernel_rfl⟩
theorem noI_57 (n : Int) : ∃ z, ∀ W : World, (Instr.typeAssert (.iface 3 (.int .i64 n)) 20 57 true).run Try.prog W = .ok (.tuple #[z, .bool false]) W := ⟨((Try.prog.info? 57).bind (·.zero)).getD undef, fun W => by kernel_rfl⟩
theorem noI_65 (n : Int) : ∃ z, ∀ W : World, (Instr.typeAssert (.iface 3 (.int .i64 n)) 20 65 true).run Try.prog W = .ok (.tuple #[z, .bool false]) W := ⟨((Try.prog.info? 65).bind (·.zero)).getD undef, fun W => by kernel_rfl⟩
theorem noI_75 (n : Int) : ∃ z, ∀ W : World, (Instr.typeAssert (.iface 3 (.int .i64 n)) 20 75 true).run Try.prog W = .ok (.tuple #[z, .bool false]) W := ⟨((Try.prog.info? 75).bind (·.zero)).getD undef, fun W => by kernel_rfl⟩
set_option maxHeartbeats 1000000 in
set_option maxRecDepth 100000 in
theorem ofI (n : Int) (w : World) : Calls Try.prog 19 #[.iface 3 (.int .i64 n)] w fun e w' => e = .returned (.tuple #[.nilIface, .bool false]) ∧ w = w' := by
  obtain ⟨z61, h61⟩ := noI_61 n
  obtain ⟨z48, h48⟩ := noI_48 n
  obtain ⟨z50, h50⟩ := noI_50 n
  obtain ⟨z69, h69⟩ := noI_69 n
  obtain ⟨z59, h59⟩ := noI_59 n
  obtain ⟨z52, h52⟩ := noI_52 n
  obtain ⟨z55, h55⟩ := noI_55 n
  obtain ⟨z71, h71⟩ := noI_71 n
  obtain ⟨z72, h72⟩ := noI_72 n
  obtain ⟨z74, h74⟩ := noI_74 n
  obtain ⟨z57, h57⟩ := noI_57 n
  obtain ⟨z65, h65⟩ := noI_65 n
  obtain ⟨z75, h75⟩ := noI_75 n
  go_enter Try.func19, Try.ntmps19
  go_wp2_with fail
  go_ret2
  exact ⟨rfl, rfl⟩
theorem rightI (n : Int) (w : World) : Calls Try.prog 12 #[.iface 3 (.int .i64 n)] w fun e w' => e = .returned (.bool false) ∧ Below w.heap.size w w' := C.Right_none _ (ofI n) w
theorem encI (id : Int) (n : Int) (w : World) : Calls Try.prog 10 #[.int .i64 id, .iface 3 (.int .i64 n)] w fun e w' => e = .returned (.tuple #[.string ⟨#[]⟩, .int .i64 1]) ∧ Below w.heap.size w w' := by
  obtain ⟨i, hi⟩ : ∃ i, P.proto_idRight.f id = some i := by
    by_cases h : id ≥ 0
    · exact ⟨_, by rw [P.proto_idRight.f, if_pos h]⟩
    · exact ⟨_, by rw [P.proto_idRight.f, if_neg h]⟩
  exact C.Encode_no id _ i false hi (rightI n) (by cases i <;> simp) w
theorem noA_61 (n : Nat) : ∃ z, ∀ W : World, (Instr.typeAssert (.iface 42 (.pointer (some ⟨n, 0, none⟩))) 20 61 true).run Try.prog W = .ok (.tuple #[z, .bool false]) W := ⟨((Try.prog.info? 61).bind (·.zero)).getD undef, fun W => by kernel_rfl⟩
theorem noA_48 (n : Nat) : ∃ z, ∀ W : World, (Instr.typeAssert (.iface 42 (.pointer (some ⟨n, 0, none⟩))) 20 48 true).run Try.prog W = .ok (.tuple #[z, .bool false]) W := ⟨((Try.prog.info? 48).bind (·.zero)).getD undef, fun W => by kernel_rfl⟩
theorem noA_50 (n : Nat) : ∃ z, ∀ W : World, (Instr.typeAssert (.iface 42 (.pointer (some ⟨n, 0, none⟩))) 20 50 true).run Try.prog W = .ok (.tuple #[z, .bool false]) W := ⟨((Try.prog.info? 50).bind (·.zero)).getD undef, fun W => by kernel_rfl⟩
theorem noA_69 (n : Nat) : ∃ z, ∀ W : World, (Instr.typeAssert (.iface 42 (.pointer (some ⟨n, 0, none⟩))) 20 69 true).run Try.prog W = .ok (.tuple #[z, .bool false]) W := ⟨((Try.prog.info? 69).bind (·.zero)).getD undef, fun W => by kernel_rfl⟩
theorem noA_59 (n : Nat) : ∃ z, ∀ W : World, (Instr.typeAssert (.iface 42 (.pointer (some ⟨n, 0, none⟩))) 20 59 true).run Try.prog W = .ok (.tuple #[z, .bool false]) W := ⟨((Try.prog.info? 59).bind (·.zero)).getD undef, fun W => by kernel_rfl⟩
theorem noA_52 (n : Nat) : ∃ z, ∀ W : World, (Instr.typeAssert (.iface 42 (.pointer (some ⟨n, 0, none⟩))) 20 52 true).run Try.prog W = .ok (.tuple #[z, .bool false]) W := ⟨((Try.prog.info? 52).bind (·.zero)).getD undef, fun W => by kernel_rfl⟩
theorem noA_55 (n : Nat) : ∃ z, ∀ W : World, (Instr.typeAssert (.iface 42 (.pointer (some ⟨n, 0, none⟩))) 20 55 true).run Try.prog W = .ok (.tuple #[z, .bool false]) W := ⟨((Try.prog.info? 55).bind (·.zero)).getD undef, fun W => by kernel_rfl⟩
theorem noA_71 (n : Nat) : ∃ z, ∀ W : World, (Instr.typeAssert (.iface 42 (.pointer (some ⟨n, 0, none⟩))) 20 71 true).run Try.prog W = .ok (.tuple #[z, .bool false]) W := ⟨((Try.prog.info? 71).bind (·.zero)).getD undef, fun W => by kernel_rfl⟩
theorem noA_72 (n : Nat) : ∃ z, ∀ W : World, (Instr.typeAssert (.iface 42 (.pointer (some ⟨n, 0, none⟩))) 20 72 true).run Try.prog W = .ok (.tuple #[z, .bool false]) W := ⟨((Try.prog.info? 72).bind (·.zero)).getD undef, fun W => by kernel_rfl⟩
theorem noA_74 (n : Nat) : ∃ z, ∀ W : World, (Instr.typeAssert (.iface 42 (.pointer (some ⟨n, 0, none⟩))) 20 74 true).run Try.prog W = .ok (.tuple #[z, .bool false]) W := ⟨((Try.prog.info? 74).bind (·.zero)).getD undef, fun W => by kernel_rfl⟩
theorem noA_57 (n : Nat) : ∃ z, ∀ W : World, (Instr.typeAssert (.iface 42 (.pointer (some ⟨n, 0, none⟩))) 20 57 true).run Try.prog W = .ok (.tuple #[z, .bool false]) W := ⟨((Try.prog.info? 57).bind (·.zero)).getD undef, fun W => by kernel_rfl⟩
theorem noA_65 (n : Nat) : ∃ z, ∀ W : World, (Instr.typeAssert (.iface 42 (.pointer (some ⟨n, 0, none⟩))) 20 65 true).run Try.prog W = .ok (.tuple #[z, .bool false]) W := ⟨((Try.prog.info? 65).bind (·.zero)).getD undef, fun W => by kernel_rfl⟩
theorem noA_75 (n : Nat) : ∃ z, ∀ W : World, (Instr.typeAssert (.iface 42 (.pointer (some ⟨n, 0, none⟩))) 20 75 true).run Try.prog W = .ok (.tuple #[z, .bool false]) W := ⟨((Try.prog.info? 75).bind (·.zero)).getD undef, fun W => by kernel_rfl⟩
set_option maxHeartbeats 1000000 in
set_option maxRecDepth 100000 in
theorem ofA (n : Nat) (w : World) : Calls Try.prog 19 #[.iface 42 (.pointer (some ⟨n, 0, none⟩))] w fun e w' => e = .returned (.tuple #[.nilIface, .bool false]) ∧ w = w' := by
  obtain ⟨z61, h61⟩ := noA_61 n
  obtain ⟨z48, h48⟩ := noA_48 n
  obtain ⟨z50, h50⟩ := noA_50 n
  obtain ⟨z69, h69⟩ := noA_69 n
  obtain ⟨z59, h59⟩ := noA_59 n
  obtain ⟨z52, h52⟩ := noA_52 n
  obtain ⟨z55, h55⟩ := noA_55 n
  obtain ⟨z71, h71⟩ := noA_71 n
  obtain ⟨z72, h72⟩ := noA_72 n
  obtain ⟨z74, h74⟩ := noA_74 n
  obtain ⟨z57, h57⟩ := noA_57 n
  obtain ⟨z65, h65⟩ := noA_65 n
  obtain ⟨z75, h75⟩ := noA_75 n
  go_enter Try.func19, Try.ntmps19
  go_wp2_with fail
  go_ret2
  exact ⟨rfl, rfl⟩
theorem rightA (n : Nat) (w : World) : Calls Try.prog 12 #[.iface 42 (.pointer (some ⟨n, 0, none⟩))] w fun e w' => e = .returned (.bool false) ∧ Below w.heap.size w w' := C.Right_none _ (ofA n) w
theorem encA (id : Int) (n : Nat) (w : World) : Calls Try.prog 10 #[.int .i64 id, .iface 42 (.pointer (some ⟨n, 0, none⟩))] w fun e w' => e = .returned (.tuple #[.string ⟨#[]⟩, .int .i64 1]) ∧ Below w.heap.size w w' := by
  obtain ⟨i, hi⟩ : ∃ i, P.proto_idRight.f id = some i := by
    by_cases h : id ≥ 0
    · exact ⟨_, by rw [P.proto_idRight.f, if_pos h]⟩
    · exact ⟨_, by rw [P.proto_idRight.f, if_neg h]⟩
  exact C.Encode_no id _ i false hi (rightA n) (by cases i <;> simp) w
theorem bearsI (n : Int) (w : World) : Calls Try.prog 15 #[.iface 3 (.int .i64 n)] w fun e w' => e = .returned (.tuple #[.string ⟨#[]⟩, .bool false]) ∧ Below w.heap.size w w' :=
  C.Bears_no _ .nilIface false false (fun W => run_typeAssert_lacksB Try.underlying97 (by kernel_rfl) (by kernel_rfl) _ 20 W) (rightI n) (by simp) w
theorem mutsI (n : Int) (w : World) : Calls Try.prog 16 #[.iface 3 (.int .i64 n)] w fun e w' => e = .returned (.bool false) ∧ Below w.heap.size w w' := C.Mutates_no _ (rightI n) w
theorem callOpHello (v : Value) (W : World) : (callMethod (.iface 61 v) "Op" #[]).run Try.prog W = .ok (.enter 53 #[v]) W := by kernel_rfl
theorem asReqHello (v : Value) (W : World) : (Instr.typeAssert (.iface 61 v) 20 40 true).run Try.prog W = .ok (.tuple #[.iface 61 v, .bool true]) W := run_typeAssert_hasB Try.underlying40 (by kernel_rfl) v 20 W
theorem callOpRegister (v : Value) (W : World) : (callMethod (.iface 48 v) "Op" #[]).run Try.prog W = .ok (.enter 43 #[v]) W := by kernel_rfl
theorem asReqRegister (v : Value) (W : World) : (Instr.typeAssert (.iface 48 v) 20 40 true).run Try.prog W = .ok (.tuple #[.iface 48 v, .bool true]) W := run_typeAssert_hasB Try.underlying40 (by kernel_rfl) v 20 W
theorem callOpMint (v : Value) (W : World) : (callMethod (.iface 50 v) "Op" #[]).run Try.prog W = .ok (.enter 44 #[v]) W := by kernel_rfl
theorem asReqMint (v : Value) (W : World) : (Instr.typeAssert (.iface 50 v) 20 40 true).run Try.prog W = .ok (.tuple #[.iface 50 v, .bool true]) W := run_typeAssert_hasB Try.underlying40 (by kernel_rfl) v 20 W
theorem callOpDerive (v : Value) (W : World) : (callMethod (.iface 69 v) "Op" #[]).run Try.prog W = .ok (.enter 57 #[v]) W := by kernel_rfl
theorem asReqDerive (v : Value) (W : World) : (Instr.typeAssert (.iface 69 v) 20 40 true).run Try.prog W = .ok (.tuple #[.iface 69 v, .bool true]) W := run_typeAssert_hasB Try.underlying40 (by kernel_rfl) v 20 W
theorem callOpRenew (v : Value) (W : World) : (callMethod (.iface 59 v) "Op" #[]).run Try.prog W = .ok (.enter 51 #[v]) W := by kernel_rfl
theorem asReqRenew (v : Value) (W : World) : (Instr.typeAssert (.iface 59 v) 20 40 true).run Try.prog W = .ok (.tuple #[.iface 59 v, .bool true]) W := run_typeAssert_hasB Try.underlying40 (by kernel_rfl) v 20 W
theorem callOpValidate (v : Value) (W : World) : (callMethod (.iface 52 v) "Op" #[]).run Try.prog W = .ok (.enter 45 #[v]) W := by kernel_rfl
theorem asReqValidate (v : Value) (W : World) : (Instr.typeAssert (.iface 52 v) 20 40 true).run Try.prog W = .ok (.tuple #[.iface 52 v, .bool true]) W := run_typeAssert_hasB Try.underlying40 (by kernel_rfl) v 20 W
theorem callOpInvoke (v : Value) (W : World) : (callMethod (.iface 55 v) "Op" #[]).run Try.prog W = .ok (.enter 47 #[v]) W := by kernel_rfl
theorem asReqInvoke (v : Value) (W : World) : (Instr.typeAssert (.iface 55 v) 20 40 true).run Try.prog W = .ok (.tuple #[.iface 55 v, .bool true]) W := run_typeAssert_hasB Try.underlying40 (by kernel_rfl) v 20 W
theorem callOpRevoke (v : Value) (W : World) : (callMethod (.iface 71 v) "Op" #[]).run Try.prog W = .ok (.enter 59 #[v]) W := by kernel_rfl
theorem asReqRevoke (v : Value) (W : World) : (Instr.typeAssert (.iface 71 v) 20 40 true).run Try.prog W = .ok (.tuple #[.iface 71 v, .bool true]) W := run_typeAssert_hasB Try.underlying40 (by kernel_rfl) v 20 W
theorem callOpDelete (v : Value) (W : World) : (callMethod (.iface 72 v) "Op" #[]).run Try.prog W = .ok (.enter 61 #[v]) W := by kernel_rfl
theorem asReqDelete (v : Value) (W : World) : (Instr.typeAssert (.iface 72 v) 20 40 true).run Try.prog W = .ok (.tuple #[.iface 72 v, .bool true]) W := run_typeAssert_hasB Try.underlying40 (by kernel_rfl) v 20 W
theorem callOpMove (v : Value) (W : World) : (callMethod (.iface 74 v) "Op" #[]).run Try.prog W = .ok (.enter 63 #[v]) W := by kernel_rfl
theorem asReqMove (v : Value) (W : World) : (Instr.typeAssert (.iface 74 v) 20 40 true).run Try.prog W = .ok (.tuple #[.iface 74 v, .bool true]) W := run_typeAssert_hasB Try.underlying40 (by kernel_rfl) v 20 W
theorem callOpList (v : Value) (W : World) : (callMethod (.iface 57 v) "Op" #[]).run Try.prog W = .ok (.enter 49 #[v]) W := by kernel_rfl
theorem asReqList (v : Value) (W : World) : (Instr.typeAssert (.iface 57 v) 20 40 true).run Try.prog W = .ok (.tuple #[.iface 57 v, .bool true]) W := run_typeAssert_hasB Try.underlying40 (by kernel_rfl) v 20 W
theorem callOpQuota (v : Value) (W : World) : (callMethod (.iface 65 v) "Op" #[]).run Try.prog W = .ok (.enter 54 #[v]) W := by kernel_rfl
theorem asReqQuota (v : Value) (W : World) : (Instr.typeAssert (.iface 65 v) 20 40 true).run Try.prog W = .ok (.tuple #[.iface 65 v, .bool true]) W := run_typeAssert_hasB Try.underlying40 (by kernel_rfl) v 20 W
theorem callOpRotate (v : Value) (W : World) : (callMethod (.iface 75 v) "Op" #[]).run Try.prog W = .ok (.enter 65 #[v]) W := by kernel_rfl
theorem asReqRotate (v : Value) (W : World) : (Instr.typeAssert (.iface 75 v) 20 40 true).run Try.prog W = .ok (.tuple #[.iface 75 v, .bool true]) W := run_typeAssert_hasB Try.underlying40 (by kernel_rfl) v 20 W
end Go.Proofs.Ytfbcidfbgebbhaa.Pure
