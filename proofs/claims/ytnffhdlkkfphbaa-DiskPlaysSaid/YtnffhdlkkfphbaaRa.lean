/-
  A slice of deeds among the arguments, opened.
-/
import Derived.Test.YtnffhdlkkfphbaaR9
import Derived.Deep.Slices
import Derived.ChangeSlices
namespace Go.Proofs.Ytnffhdlkkfphbaa.D
set_option linter.unusedVariables false
set_option linter.unusedSimpArgs false
open Go.ChangeShapes Go.WideShapes Go.RowKit Go.Deep
/-- What a deed says. -/
structure DeedV where
  k : Int
  at_ : Int
  s : ByteArray
  n : Int
  A : Option Addr
  ks : List Int
  c : Nat
/-- A slice of deeds that is read, below B. -/
def RowD (w : World) (B : Nat) (A : Option Addr) (len : Nat) : Prop :=
  ∀ i, i < len → ∃ (x : Addr) (v : DeedV), A = some x ∧ x.block < B ∧ (-9223372036854775808 ≤ v.k ∧ v.k ≤ 9223372036854775807) ∧ (-9223372036854775808 ≤ v.n ∧ v.n ≤ 9223372036854775807) ∧ RowA w (fun q => B ≤ q) v.A v.ks ∧
    w.cell? (x.add (i * 5 + 0)) = some (.int .i64 v.k) ∧ w.cell? (x.add (i * 5 + 1)) = some (.int .i64 v.at_) ∧ w.cell? (x.add (i * 5 + 2)) = some (.string v.s) ∧ w.cell? (x.add (i * 5 + 3)) = some (.int .i64 v.n) ∧ w.cell? (x.add (i * 5 + 4)) = some (.slice v.A v.ks.length v.c)
theorem u64 : ((Try.prog.underlying 64).bind fun u => match u with | .struct fs => some (fs.map (fun f => (f.type, f.offset))) | _ => none) = some #[(3, 0), (3, 1), (9, 2), (3, 3), (51, 4)] := by kernel_rfl
theorem c64 : Try.prog.cellsOf 64 = 5 := by kernel_rfl
theorem c3_ : Try.prog.cellsOf 3 = 1 := by kernel_rfl
theorem c9_ : Try.prog.cellsOf 9 = 1 := by kernel_rfl
theorem c51_ : Try.prog.cellsOf 51 = 1 := by kernel_rfl
theorem take_drop_one (cs : List Value) (j : Nat) (v : Value) (h : (cs.drop j).take 1 = [v]) : cs[j]? = some v := by
  have h1 := congrArg (fun l => l[0]?) h
  simpa [List.getElem?_take, List.getElem?_drop] using h1
theorem deeds_opened {H : Type} {enc : TypeId × Value → H} {W : World} {a : Option Addr} {len cap : Nat} {d : DataW H} {ps : List MemPlace}
    (h : DataW.Trod enc Try.prog W 0 (fun _ => true) true 58 (.slice a len cap) d ps) : RowD W W.heap.size a len := by
  obtain ⟨fuel, hf⟩ := h
  rcases open_slice Try.underlying58 hf with ⟨hcs, _⟩ | ⟨x, l, c, m, n, Df, Pl, hcs, _, hl, hm, hmm, hx, hel⟩
  · simp [Value.cells] at hcs
    obtain ⟨rfl, rfl, rfl⟩ := hcs
    exact fun i hi => absurd hi (Nat.not_lt_zero i)
  · simp [Value.cells] at hcs
    obtain ⟨rfl, rfl, rfl⟩ := hcs
    intro i hi
    simp only [if_true] at hmm
    obtain ⟨cs, h1, h2⟩ := hel i (by omega)
    rw [c64] at h1
    obtain ⟨_, hlen, hcell⟩ := World.cells?_some h1
    have hu := u64
    cases hs : Try.prog.underlying 64 with
    | none => rw [hs] at hu; cases hu
    | some u =>
      rw [hs] at hu
      cases u with
      | struct fs =>
        have hfs : fs.map (fun f => (f.type, f.offset)) = #[(3, 0), (3, 1), (9, 2), (3, 3), (51, 4)] := Option.some.inj hu
        obtain ⟨xs, n', _, hx', _, hxl, hfd⟩ := DataW.trod_struct hs h2
        have hsz : fs.size = 5 := by have := congrArg Array.size hfs; simpa using this
        have fld : ∀ j (hj : j < 5), ∃ f, fs[j]? = some f ∧ (f.type, f.offset) = ([(3, 0), (3, 1), (9, 2), (3, 3), (51, 4)] : List (Nat × Nat)).getD j (0, 0) := by
          intro j hj
          refine ⟨fs[j]'(by omega), Array.getElem?_eq_getElem _, ?_⟩
          have h3 : (fs.map (fun f => (f.type, f.offset)))[j]? = some ((fs[j]'(by omega)).type, (fs[j]'(by omega)).offset) := by
            rw [Array.getElem?_map, Array.getElem?_eq_getElem (by omega)]
            rfl
          rw [hfs] at h3
          match j, hj with
          | 0, _ => exact (Option.some.inj h3).symm
          | 1, _ => exact (Option.some.inj h3).symm
          | 2, _ => exact (Option.some.inj h3).symm
          | 3, _ => exact (Option.some.inj h3).symm
          | 4, _ => exact (Option.some.inj h3).symm
        have one : ∀ j (hj : j < 5), ∃ y, DataW.trod enc Try.prog W 0 (fun _ => true) true n' (([(3, 0), (3, 1), (9, 2), (3, 3), (51, 4)] : List (Nat × Nat)).getD j (0, 0)).1 ((cs.drop j).take 1) = some y := by
          intro j hj
          obtain ⟨f, hf1, hf2⟩ := fld j hj
          have h3 := hfd j f hf1
          have ht : f.type = (([(3, 0), (3, 1), (9, 2), (3, 3), (51, 4)] : List (Nat × Nat)).getD j (0, 0)).1 := congrArg Prod.fst hf2
          have ho : f.offset = (([(3, 0), (3, 1), (9, 2), (3, 3), (51, 4)] : List (Nat × Nat)).getD j (0, 0)).2 := congrArg Prod.snd hf2
          have hj5 : j < xs.length := by omega
          rw [List.getElem?_eq_getElem hj5] at h3
          refine ⟨xs[j], ?_⟩
          rw [ht, ho] at h3
          match j, hj with
          | 0, _ => simpa only [List.getD_cons_zero, List.getD_cons_succ, c3_, c9_, c51_] using h3
          | 1, _ => simpa only [List.getD_cons_zero, List.getD_cons_succ, c3_, c9_, c51_] using h3
          | 2, _ => simpa only [List.getD_cons_zero, List.getD_cons_succ, c3_, c9_, c51_] using h3
          | 3, _ => simpa only [List.getD_cons_zero, List.getD_cons_succ, c3_, c9_, c51_] using h3
          | 4, _ => simpa only [List.getD_cons_zero, List.getD_cons_succ, c3_, c9_, c51_] using h3
        obtain ⟨y0, t0⟩ := one 0 (by omega)
        obtain ⟨y1, t1⟩ := one 1 (by omega)
        obtain ⟨y2, t2⟩ := one 2 (by omega)
        obtain ⟨y3, t3⟩ := one 3 (by omega)
        obtain ⟨y4, t4⟩ := one 4 (by omega)
        obtain ⟨k, e0, _, w0⟩ := DataW.trod_int Try.underlying3 t0
        obtain ⟨at_, e1, _, w1⟩ := DataW.trod_int Try.underlying3 t1
        obtain ⟨s, e2, _, w2⟩ := DataW.trod_string Try.underlying9 t2
        obtain ⟨nn, e3, _, w3⟩ := DataW.trod_int Try.underlying3 t3
        have g0 := take_drop_one _ _ _ e0
        have g1 := take_drop_one _ _ _ e1
        have g2 := take_drop_one _ _ _ e2
        have g3 := take_drop_one _ _ _ e3
        have add_add : ∀ j, (x.add (i * 5)).add j = x.add (i * 5 + j) := fun j => by
          have aux : ∀ p, (x.add p).add j = x.add (p + j) := fun p => by
            unfold Addr.add
            by_cases h1 : p = 0 <;> by_cases h2 : j = 0 <;> simp [h1, h2, Nat.add_assoc]
          exact aux _
        have cl : ∀ j (hj : j < 5) v, cs[j]? = some v → W.cell? (x.add (i * 5 + j)) = some v := fun j hj v hv => by
          rw [← add_add, hcell j hj, hv]
        have hb : x.block < W.heap.size := by
          have := cell_lt (cl 0 (by omega) _ g0)
          rwa [D.add_block] at this
        rcases open_ints Try.underlying51 Try.underlying3 c3_ t4 with ⟨e4, _⟩ | ⟨ka, kl, kc, zs, e4, _, hkl, hkm, hkz, _, hkc, hkw⟩
        · exact ⟨x, ⟨k, at_, s, nn, none, [], 0⟩, rfl, hb, bounds_i64 w0, bounds_i64 w3, RowA.nil _ _ _, cl 0 (by omega) _ g0, cl 1 (by omega) _ g1, cl 2 (by omega) _ g2, cl 3 (by omega) _ g3, cl 4 (by omega) _ (take_drop_one _ _ _ e4)⟩
        · have hzl : (zs.take kl).length = kl := by
            simp only [if_true] at hkz
            rw [List.length_take]; omega
          refine ⟨x, ⟨k, at_, s, nn, some ka, zs.take kl, kc⟩, rfl, hb, bounds_i64 w0, bounds_i64 w3, fun j hj => ?_, cl 0 (by omega) _ g0, cl 1 (by omega) _ g1, cl 2 (by omega) _ g2, cl 3 (by omega) _ g3, ?_⟩
          · have hj2 : j < kl := by rw [hzl] at hj; exact hj
            simp only [if_true] at hkz
            have hc := hkc j (by omega)
            have hlt := cell_lt hc
            rw [D.add_block] at hlt
            refine ⟨ka, rfl, by omega, ?_⟩
            rw [hc]
            simp [List.getD_eq_getElem?_getD, hj2]
          · rw [hzl]
            exact cl 4 (by omega) _ (take_drop_one _ _ _ e4)
      | _ => cases hu
end Go.Proofs.Ytnffhdlkkfphbaa.D
