/-
  slices.Sort upon a slice of ints of one's own: the sorted list lies in it. (The numbers are those of the seat know.)
-/
import Derived.Test.YtjkfbimldgegmaaKnow8
import Derived.Sort.OwnSortedInts
import Derived.Shelf.Sort.Plain
import Derived.Shelf.Slices.In.SortNone
namespace Go.Proofs.Ytjkfbimldgegmaa
set_option maxRecDepth 8000
set_option linter.unusedSimpArgs false
set_option linter.unusedVariables false
open Go Go.RowKit

/-- The numbers of the functions and types of the sort of ints, in this program (printed by the kit's command that lays). -/
def lays189_ren : Go.Shelf.Ren := ⟨fun | 189 => 39 | 125 => 56 | 257 => 55 | 128 => 72 | 129 => 73 | 294 => 63 | 295 => 64 | 296 => 65 | 297 => 66 | 298 => 67 | 299 => 68 | 216 => 69 | 300 => 70 | 301 => 71 | 328 => 74 | 329 => 75 | 330 => 76 | 331 => 77 | 332 => 78 | 215 => 61 | 343 => 79 | n => n, fun | 28 => 23 | 3 => 3 | 46 => 88 | 0 => 0 | 51 => 103 | 53 => 35 | 4 => 4 | 183 => 96 | 182 => 95 | 131 => 69 | 5 => 5 | 9 => 9 | 218 => 105 | 222 => 109 | 228 => 111 | 229 => 112 | n => n, fun | n => n⟩
/-- The sort of ints in this program is the one that the library walked. -/
theorem lays189 : Go.Proofs.Lays.n189 Try.prog lays189_ren where
  mixed := by kernel_rfl
  f125 := Try.func56.trans (congrArg some (by kernel_rfl))
  f128 := Try.func72.trans (congrArg some (by kernel_rfl))
  f129 := Try.func73.trans (congrArg some (by kernel_rfl))
  f189 := Try.func39.trans (congrArg some (by kernel_rfl))
  f215 := Try.func61.trans (congrArg some (by kernel_rfl))
  f216 := Try.func69.trans (congrArg some (by kernel_rfl))
  f257 := Try.func55.trans (congrArg some (by kernel_rfl))
  f294 := Try.func63.trans (congrArg some (by kernel_rfl))
  f295 := Try.func64.trans (congrArg some (by kernel_rfl))
  f296 := Try.func65.trans (congrArg some (by kernel_rfl))
  f297 := Try.func66.trans (congrArg some (by kernel_rfl))
  f298 := Try.func67.trans (congrArg some (by kernel_rfl))
  f299 := Try.func68.trans (congrArg some (by kernel_rfl))
  f300 := Try.func70.trans (congrArg some (by kernel_rfl))
  f301 := Try.func71.trans (congrArg some (by kernel_rfl))
  f328 := Try.func74.trans (congrArg some (by kernel_rfl))
  f329 := Try.func75.trans (congrArg some (by kernel_rfl))
  f330 := Try.func76.trans (congrArg some (by kernel_rfl))
  f331 := Try.func77.trans (congrArg some (by kernel_rfl))
  f332 := Try.func78.trans (congrArg some (by kernel_rfl))
  f343 := Try.func79.trans (congrArg some (by kernel_rfl))
  t0 := Try.underlying0
  a0 := Try.isAgg0
  z0 := Try.sizeOf0
  v0 := Try.zeroValue0
  t3 := Try.underlying3
  a3 := Try.isAgg3
  z3 := Try.sizeOf3
  v3 := Try.zeroValue3
  t4 := Try.underlying4
  a4 := Try.isAgg4
  z4 := Try.sizeOf4
  v4 := Try.zeroValue4
  t5 := Try.underlying5
  a5 := Try.isAgg5
  z5 := Try.sizeOf5
  v5 := Try.zeroValue5
  t9 := Try.underlying9
  a9 := Try.isAgg9
  z9 := Try.sizeOf9
  v9 := Try.zeroValue9
  t28 := Try.underlying23
  a28 := Try.isAgg23
  z28 := Try.sizeOf23
  v28 := Try.zeroValue23
  t46 := Try.underlying88
  a46 := Try.isAgg88
  z46 := Try.sizeOf88
  v46 := Try.zeroValue88
  t51 := Try.underlying103
  a51 := Try.isAgg103
  z51 := Try.sizeOf103
  v51 := Try.zeroValue103
  t53 := Try.underlying35
  a53 := Try.isAgg35
  z53 := Try.sizeOf35
  v53 := Try.zeroValue35
  t131 := Try.underlying69
  a131 := Try.isAgg69
  z131 := Try.sizeOf69
  v131 := Try.zeroValue69
  t182 := Try.underlying95
  a182 := Try.isAgg95
  z182 := Try.sizeOf95
  v182 := Try.zeroValue95
  t183 := Try.underlying96
  a183 := Try.isAgg96
  z183 := Try.sizeOf96
  v183 := Try.zeroValue96
  t218 := Try.underlying105
  a218 := Try.isAgg105
  z218 := Try.sizeOf105
  v218 := Try.zeroValue105
  t222 := Try.underlying109
  a222 := Try.isAgg109
  z222 := Try.sizeOf109
  v222 := Try.zeroValue109
  t228 := Try.underlying111
  a228 := Try.isAgg111
  z228 := Try.sizeOf111
  v228 := Try.zeroValue111
  t229 := Try.underlying112
  a229 := Try.isAgg112
  z229 := Try.sizeOf112
  v229 := Try.zeroValue112

/-- The list of ints, sorted. -/
def srt (l : List Int) : List Int := l.mergeSort fun x y => decide (x ≤ y)
theorem srt_length (l : List Int) : (srt l).length = l.length := by unfold srt; simp

section
variable {we w : World} {ρ : List (Nat × Obj)} {σ F : List HP}

theorem sort_calls {l : List Int} {v : Value} (hl : l.length ≤ 200000) (hS : St we ρ (Vec 3 1 v l.length (l.flatMap intL) :: F) w) :
    Cl Try.prog 39 [v] w fun _ w' => St we ρ (Vec 3 1 v (srt l).length ((srt l).flatMap intL) :: F) w' := by
  obtain ⟨_, ⟨rfl, h0, _, hS2⟩ | ⟨g, cap, spare, rfl, c1, c2, c3, hS2⟩⟩ := vec_open hS
  · obtain rfl := List.eq_nil_of_length_eq_zero h0
    refine ⟨(Any.slices_Sort_int_none lays189 none 0 w).mono ?_⟩
    rintro e w' ⟨rfl, rfl⟩
    have h0 : srt [] = [] := by simp [srt]
    show St we ρ (Vec 3 1 (.slice none 0 0) (srt []).length ((srt []).flatMap intL) :: F) w'
    rw [h0]
    exact hS
  · have hb := hS2.lt .head
    rw [ints_flat] at hb hS2
    have h4 : (l.map (Value.int .i64) ++ spare).take l.length = l.map (Value.int .i64) := List.take_left' (by simp)
    have hH := holds_of_blockI (ss := l) hb h4
    have hlt : g < w.heap.size := (Array.getElem?_eq_some_iff.1 hb).1
    refine ⟨(Any.slices_Sort_int lays189 g 0 cap l w hH hlt (by omega)).mono ?_⟩
    rintro e w' ⟨rfl, n, os, rfl⟩
    have hsz : (l.map (Value.int .i64) ++ spare).toArray.size = cap * 1 := by simp; omega
    have hgr := grownBy_sortedI (w := w) (g := g) (n := n) (os := os) (srt l).toArray
    have hnew := heap_sortedI (n := n) (os := os) (srt l).toArray hb
    generalize hc : Sort.putCells (Value.int .i64) 0 (srt l).toArray (l.map (Value.int .i64) ++ spare).toArray = cells at hnew
    have hcs : cells.toList.length = cap * 1 := by rw [← hc]; simp [Sort.putCells]; omega
    have hct : cells.toList.take (l.length * 1) = (srt l).flatMap intL := by
      rw [ints_flat, ← take_putCellsI (l.map (Value.int .i64) ++ spare).toArray (srt l) (by simp [srt_length]), hc, srt_length, Nat.mul_one]
    have hnew2 : (Sort.grow (Sort.putRow (Value.int .i64) (Sort.ahead w n) g 0 (srt l).toArray) os).heap[g]? = some (.cells cells.toList.toArray 3 (0, 0)) := by rw [hnew, Array.toArray_toList]
    have hS3 : St we ρ (Row g cells.toList 3 :: F) (Sort.grow (Sort.putRow (Value.int .i64) (Sort.ahead w n) g 0 (srt l).toArray) os) := by
      refine hS2.turn hgr.os hgr.tape hgr.output hgr.size (fun X hX hnd => ⟨[g], ?_, by simp, ?_, ?_, ?_⟩)
      · unfold Row Blk
        exact ⟨rfl, hnew2⟩
      · unfold Row Blk at hX
        intro b hb2
        rw [hX.1]; exact .inl hb2
      · intro b hb2
        obtain rfl := List.mem_singleton.1 hb2
        exact (Array.getElem?_eq_some_iff.1 hnew2).1
      · unfold Row Blk at hX
        intro b hb2 hb3
        rw [hX.1] at hb3
        exact hgr.block b hb2 (fun e => hb3 (by simp at e; simp [e]))
    have hS4 := vec_shut hS3 c1 c2 hcs hct
    rw [srt_length]
    exact hS4
end
end Go.Proofs.Ytjkfbimldgegmaa
