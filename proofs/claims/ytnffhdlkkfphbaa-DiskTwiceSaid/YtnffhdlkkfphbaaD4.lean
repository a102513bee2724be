/-
  The walk of a disk's Write of a sector for the first time.
-/
import Derived.Test.YtnffhdlkkfphbaaD3
import Derived.StillTailTactics
namespace Go.Proofs.Ytnffhdlkkfphbaa.D
set_option linter.unusedVariables false
set_option linter.unusedSimpArgs false
open Go.RowKit Go.Proofs.YtnffhdlkkfphbaaW.PrintWords Go.Proofs.YtnffhdlkkfphbaaW.PrintLast Go.Proofs.YtnffhdlkkfphbaaW.PrintMore
open Go.Lib (hid)
theorem still_tail {P : Program} {id : Nat} {Q : Exit → Act → World → Prop} {a : Act} {w : World} {l : List Oper} (n : Nat) (hm : P.follows .mixedOrders = true) (hB : Region.lexTailB .any l.toArray n = true)
    (h : wpStill P l.toArray w.drew (fun a' => wpList P l.toArray Q (l.drop n) a' w.drew) (l.take n) a) : (Code.region id l.toArray true).wp P Q a w := wp_region_still_tail n hm hB h
theorem blk_row {w w3 : World} {gn t c : Nat} {cells : Array Value} (h : w.heap[gn]? = some (.cells cells t (0, 0))) {ov : Value} {F : Nat → Prop} {xs : List Int} (ho : Kd.R (Kd.int .i64) 3 w 0 F ov xs) (ht : 3 ≠ t) (hg : w.grownBy w3 ov.ownBlock) :
    w3.heap[gn]? = some (.cells cells t (0, 0)) := by
  refine (hg.block gn (blk_lt h) (fun e => ?_)).trans h
  exact ((Kd.R_types ho h (fun q hq => by cases hq with | head => exact ht | tail _ h => cases h)).1 gn e.symm).2 rfl
theorem map_row {w w3 : World} {gm : Nat} {L : List (Int × ByteArray)} (h : MapS w gm L) {ov : Value} {F : Nat → Prop} {xs : List Int} (ho : Kd.R (Kd.int .i64) 3 w 0 F ov xs) (hg : w.grownBy w3 ov.ownBlock) : MapS w3 gm L := by
  refine h.kept (hg.block gm h.lt (fun e => ?_))
  obtain ⟨_, _, _, q, _, cells, hc⟩ := (Kd.R_bound ho).1 gm e.symm
  exact map_ne hc h rfl
/-- The number of a sector that was not loose has been appended to the order. -/
theorem first_fin {F F' : Nat → Prop} {w2 w3 : World} {d gn gm n : Nat} {ov v1 : Value} {st : St} {x : ByteArray} {fu : Int}
    (hd : w2.heap[d]? = some (.cells #[.slice (some ⟨gn, 0, none⟩) st.now.length st.now.length, .map (some gm), ov, .int .i64 fu, .bool st.gone] 80 (0, 0)))
    (hsx : w2.heap[gn]? = some (.cells (st.now.map Value.string).toArray 9 (0, 0))) (hm : MapS w2 gm (st.loose ++ [((n : Int), x)])) (ho : Kd.R (Kd.int .i64) 3 w2 0 F ov (st.loose.map (·.1)))
    (f1 : F d) (f2 : F gn) (f3 : F gm) (hl : 0 < st.now.length ∧ st.now.length ≤ 1000) (hz : ∀ s ∈ st.now, s.size ≤ 1000000000) (hf : -1 ≤ fu ∧ fu ≤ 9223372036854775807) (hr : ∀ p ∈ st.loose, 0 ≤ p.1 ∧ p.1 < st.now.length)
    (hn : n < st.now.length) (hF : ∀ i, F i → F' i) (hR : Kd.R (Kd.int .i64) 3 w3 0 F' v1 (st.loose.map (·.1) ++ [(n : Int)])) (hg : w2.grownBy w3 ov.ownBlock) :
    w3.heap[d]? = some (.cells #[.slice (some ⟨gn, 0, none⟩) st.now.length st.now.length, .map (some gm), ov, .int .i64 fu, .bool st.gone] 80 (0, 0)) ∧ w3.heap[gn]? = some (.cells (st.now.map Value.string).toArray 9 (0, 0)) ∧
    DiskAt F' (w3.setCell ⟨d, 2, none⟩ v1) d { st with fuse := fu, loose := st.loose ++ [((n : Int), x)] } := by
  have hd3 := blk_row (c := 0) hd ho (by decide) hg
  have hs3 := blk_row (c := 0) hsx ho (by decide) hg
  have hm3 := map_row hm ho hg
  have hne := blk_ne hs3 hd3 (by decide)
  refine ⟨hd3, hs3, gn, gm, v1, blk_set hd3 2 _, blk_far hs3 (p := ⟨d, 2, none⟩) hne _, hm3.kept (Below.heap_setCell w3 ⟨d, 2, none⟩ _ gm (map_ne hd3 hm3)), ?_, hF _ f1, hF _ f2, hF _ f3, hl, hz, hf, ?_⟩
  · rw [List.map_append]
    exact Kd.R_set hR hd3 (by decide) 2 _
  · intro p hp
    rcases List.mem_append.1 hp with hp | hp
    · exact hr p hp
    · rw [List.mem_singleton.1 hp]
      exact ⟨by show (0 : Int) ≤ n; omega, by show (n : Int) < (st.now.length : Int); omega⟩
end Go.Proofs.Ytnffhdlkkfphbaa.D
