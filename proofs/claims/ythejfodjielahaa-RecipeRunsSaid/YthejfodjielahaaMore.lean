/-
  More rules: delete, slicing, clear, conversions, remainders, texts' bytes, ranges over maps. Holds of every program.
-/
import Derived.Test.YthejfodjielahaaGrow
import Derived.Maps.RangeRun
namespace Go.Proofs.Ythejfodjielahaa
set_option maxRecDepth 8000
set_option linter.unusedSimpArgs false
set_option linter.unusedVariables false
open Go Go.RowKit
open Go.ChangeMaps (setBlock)

/-- What a delete leaves. -/
def mdel (eqv : Value → Bool) (es : List MapEntry) : List MapEntry :=
  match mfind eqv es 0 with
  | some (i, _) => es.eraseIdx i
  | none => es

section
variable {P : Program} {f : FuncId} {n : Nat} {R : Ending → World → Prop} {k : List Item} {e : Env} {ty : TypeId} {x y z : Operand} {u v : Value}
variable {we w : World} {ρ : List (Nat × Obj)} {σ σ' F : List HP} {d : Nat} {pos : String} {aft : Array Edge} {gd : Option (Nat × Bool)} {K : Env → World → Prop}

theorem OP.putNone {op : Op} {w' : World} (h : ∀ a, Ok n e a → (execOp a.eval ⟨none, op, ty, pos, aft, gd⟩).run P w = .ok (.value v) w')
    (hk : K e w') : OP P n ⟨none, op, ty, pos, aft, gd⟩ e w K := by
  refine ⟨fun a ha Q next hn => ?_⟩
  unfold Oper.wp
  rw [h a ha]
  exact hn _ _ _ (ha.putNone v) hk

theorem run_delete {t t2 kt et ty' : TypeId} {m clock : Nat} {es : List MapEntry} {key : Value} {eqv : Value → Bool} (ht : P.underlying t = some (.map kt et)) (hk : KeyIs P kt key es eqv) (hm : w.heap[m]? = some (.map es.toArray clock)) :
    (Builtin.delete_ #[t, t2] ty' #[.map (some m), key]).run P w = .ok (.tuple #[]) { w with heap := w.heap.setIfInBounds m (.map (mdel eqv es).toArray clock) } := by
  have h1 : (getObj m).run P w = .ok (.map es.toArray clock) w := by simp [getObj, Sem.run, hm]
  simp only [Builtin.delete_, Sem.run_bind, run_underlying ht, Result.andThen_ok, h1, hk.check, hk.find, List.getElem?_toArray, List.getElem?_cons_zero, List.getElem?_cons_succ]
  cases hf : mfind eqv es 0 with
  | none =>
    simp only [mdel, hf, run_setObj hm]
    simp [run_setObj hm]
  | some r =>
    have h7 : es.toArray.eraseIdxIfInBounds r.1 = (es.eraseIdx r.1).toArray := by simp
    simp only [mdel, hf, run_setObj hm, h7]
    simp [run_setObj hm]

theorem OP.delete {t t2 kt et : TypeId} {m clock : Nat} {es es2 : List MapEntry} {key : Value} {eqv : Value → Bool} (hS : St we ρ σ w) (hx : ev e x = some (.map (some m))) (hy : ev e y = some key) (ht : P.underlying t = some (.map kt et))
    (hp : Put (Blk m (.map es.toArray clock)) (Blk m (.map es2.toArray clock)) σ σ') (hk : KeyIs P kt key es eqv) (he : mdel eqv es = es2) (hK : ∀ w1, St we ρ σ' w1 → K e w1) :
    OP P n ⟨none, .call { callee := .builtin .delete, args := #[x, y], argTypes := #[t, t2] }, ty, pos, aft, gd⟩ e w K := by
  subst he
  have hm := hS.lt hp.has
  have hlt : m < w.heap.size := (Array.getElem?_eq_some_iff.1 hm).1
  refine OP.putNone (v := .tuple #[]) (fun a ha => ?_) (hK { w with heap := w.heap.setIfInBounds m (.map (mdel eqv es).toArray clock) } (hS.write hp rfl rfl rfl (by simp) (by simp [hlt]) (fun k hk => by simp [Array.getElem?_setIfInBounds, Ne.symm hk])))
  simp only [execOp, resolve, invoke, Sem.run_bind, Sem.run_pure, Result.andThen_ok]
  simp [builtin, ha.ev hx, ha.ev hy, run_delete (t2 := t2) (ty' := ty) ht hk hm]

/-- append of nothing. -/
theorem OP.appendNil {t el : TypeId} {i : TypeInfo} {size m : Nat} {xs : List Value} {c : Nat} {v : Value} (hS : St we ρ σ w) (hx : ev e x = some v) (hy : ev e y = some (.slice none 0 c)) (ht : elemB P t = some el) (hi : P.info? el = some i)
    (hT : Take (Vec el size v m xs) σ F) (hd : Nat.blt d n = true) (hk : K ((d, v) :: e) w) :
    OP P n ⟨some d, .call { callee := .builtin .append, args := #[x, y], argTypes := #[t, t] }, ty, pos, aft, gd⟩ e w K := by
  have hform : ∃ pk cap, v = .slice pk m cap ∧ m ≤ cap := by
    rcases (vec_open (hS.take hT)).2 with ⟨rfl, rfl, _⟩ | ⟨g, cap, spare, rfl, h1, _⟩
    · exact ⟨_, _, rfl, Nat.le_refl _⟩
    · exact ⟨_, _, rfl, h1⟩
  obtain ⟨pk, cap, rfl, hle⟩ := hform
  refine OP.put (fun a ha => ?_) hd hk
  have hrun : (Builtin.append_ #[t, t] ty #[.slice pk m cap, .slice none 0 c]).run P w = .ok (.slice pk m cap) w := by
    cases pk <;> simp [Builtin.append_, run_underlying (run_elem ht), sizeOf, typeInfo, hi, Builtin.lenOf, Builtin.firstCells, hle, storeCells]
  simp only [execOp, resolve, invoke, Sem.run_bind, Sem.run_pure, Result.andThen_ok]
  simp [builtin, ha.ev hx, ha.ev hy, hrun]

/-! ### Slicing -/
theorem Still.sliceHi {t el : TypeId} {b off len cap m : Nat} {q : IntKind} {i : Int} {S : World → Prop} (hx : ev e x = some (.slice (some ⟨b, off, none⟩) len cap)) (hy : ev e y = some (.int q i)) (ht : elemB P t = some el) (hs : sizeB P el = some m)
    (h0 : 0 ≤ i) (h1 : i ≤ cap) {j : Nat} (hj : i.toNat = j) : Still P n e S (.slice t x none (some y) none) ty (.slice (some ⟨b, off, none⟩) j cap) := Still.mk fun a w ha _ d pos aft g => by
  subst hj
  simp only [execOp, ha.ev hx, Option.map_some, Option.map_none, ha.ev hy, Instr.sliceAt, Instr.slice, Sem.run_bind, run_underlying (run_elem ht), Result.andThen_ok, Instr.sliceBounds, Instr.sliceBound, asIntOf, Sem.run_pure]
  simp [h0, h1, run_sizeOf hs, Addr.add_lit]
theorem Still.sliceLo {t el : TypeId} {b off len cap m : Nat} {q : IntKind} {i : Int} {S : World → Prop} (hx : ev e x = some (.slice (some ⟨b, off, none⟩) len cap)) (hy : ev e y = some (.int q i)) (ht : elemB P t = some el) (hs : sizeB P el = some m)
    (h0 : 0 ≤ i) (h1 : i ≤ len) (h2 : i < cap) {o l c : Nat} (ho : off + i.toNat * m = o) (hl : len - i.toNat = l) (hc : cap - i.toNat = c) : Still P n e S (.slice t x (some y) none none) ty (.slice (some ⟨b, o, none⟩) l c) := Still.mk fun a w ha _ d pos aft g => by
  subst ho hl hc
  simp only [execOp, ha.ev hx, Option.map_some, Option.map_none, ha.ev hy, Instr.sliceAt, Instr.slice, Sem.run_bind, run_underlying (run_elem ht), Result.andThen_ok, Instr.sliceBounds, Instr.sliceBound, asIntOf, Sem.run_pure]
  have h3 : ¬ cap = i.toNat := by omega
  simp [h0, h1, run_sizeOf hs, Addr.add_lit, h3]

theorem Still.indexAddrA {t el : TypeId} {b off len m o : Nat} {q : IntKind} {i : Int} {S : World → Prop} (hx : ev e x = some (.pointer (some ⟨b, off, none⟩))) (hy : ev e y = some (.int q i)) (ht : P.underlying t = some (.array len el)) (hs : sizeB P el = some m)
    (h0 : 0 ≤ i) (h1 : i < len) (ho : off + i.toNat * m = o) : Still P n e S (.indexAddr t x y) ty (.pointer (some ⟨b, o, none⟩)) := Still.mk fun a w ha _ d pos aft g => by
  subst ho
  simp only [execOp, ha.ev hx, ha.ev hy, Instr.indexAt, asIntOf, Sem.run_bind, Sem.run_pure, Result.andThen_ok, run_underlying ht]
  simp [h0, h1, run_sizeOf hs, Addr.add_lit, Instr.sureAddr]

/-! ### clear -/
theorem OP.clearInts {t el : TypeId} {b off len cap : Nat} {l l' : List Value} {ek : TypeId} {q : IntKind} (hS : St we ρ σ w) (hx : ev e x = some (.slice (some ⟨b, off, none⟩) len cap)) (ht : elemB P t = some el) (hz : zeroB P el = some (.int q 0)) (h0 : 0 < len)
    (hp : Put (Row b l ek) (Row b l' ek) σ σ') (hl : off + len ≤ l.length) (hl' : l.take off ++ List.replicate len (Value.int q 0) ++ l.drop (off + len) = l') (hK : ∀ w1, St we ρ σ' w1 → K e w1) :
    OP P n ⟨none, .call { callee := .builtin .clear, args := #[x], argTypes := #[t] }, ty, pos, aft, gd⟩ e w K := by
  subst hl'
  have hb := hS.lt hp.has
  obtain ⟨w', e1, e2, e3, e4, e5, e6, e7⟩ := run_storeCells (P := P) b ek (List.replicate len (Value.int q 0)) off 0 l w hb (by simpa using hl) (by intro v hv; rw [List.eq_of_mem_replicate hv]; rfl)
  have hzc : (Builtin.zeroCells (Value.int q 0).cells len).toList = List.replicate len (Value.int q 0) := by
    apply List.ext_getElem
    · simp [Builtin.zeroCells, Value.cells]
    · intro j h1 h2
      simp [Builtin.zeroCells, Value.cells, Nat.mod_one]
  have hrun : (Builtin.clear_ #[t] ty #[.slice (some ⟨b, off, none⟩) len cap]).run P w = .ok (.tuple #[]) w' := by
    obtain ⟨len, rfl⟩ : ∃ m, len = m + 1 := ⟨len - 1, by omega⟩
    simp only [Builtin.clear_, Sem.run_bind, run_underlying (run_elem ht), Result.andThen_ok, List.getElem?_toArray, List.getElem?_cons_zero, run_zero hz, hzc, e1, Sem.run_pure]
  refine OP.putNone (v := .tuple #[]) (fun a ha => ?_) (hK w' (hS.write hp e5 e6 e7 e4 (by simpa using e2) e3))
  simp only [execOp, resolve, invoke, Sem.run_bind, Sem.run_pure, Result.andThen_ok]
  simp [builtin, ha.ev hx, hrun]

/-! ### Numbers -/
theorem Still.rem {t t' : TypeId} {k : IntKind} {p q c : Int} {S : World → Prop} (hx : ev e x = some (.int k p)) (hy : ev e y = some (.int k q)) (h0 : q ≠ 0) (hc : p.tmod q = c) : Still P n e S (.binOp .rem t x y t') ty (.int k c) := by
  subst hc
  refine Still.bin hx hy (guardInt .rem p q) (fun w _ => ?_)
  simp [binOp, Op.intDiv, h0]
theorem Still.conv {s dt : TypeId} {k k' : IntKind} {p c : Int} {us : TypeDesc} {S : World → Prop} (hx : ev e x = some (.int k' p)) (hs : P.underlying s = some us) (hd : P.underlying dt = some (.int k)) (hc : k.wrap p = c) : Still P n e S (.convert s dt x) ty (.int k c) := Still.mk fun a w ha _ d pos aft g => by
  subst hc
  simp [execOp, ha.ev hx, convert, run_underlying hs, run_underlying hd, Conv.intToInt]
theorem Still.byteAt {t : TypeId} {s : ByteArray} {q : IntKind} {i : Int} {S : World → Prop} (hx : ev e x = some (.string s)) (hy : ev e y = some (.int q i)) (ht : P.underlying t = some .string) (h0 : 0 ≤ i) (h1 : i.toNat < s.size) : Still P n e S (.index t x y) ty (.int .u8 (s[i.toNat]'h1).toNat) := Still.mk fun a w ha _ d pos aft g => by
  simp only [execOp, ha.ev hx, ha.ev hy, Instr.index, asIntOf, Sem.run_bind, Sem.run_pure, Result.andThen_ok, run_underlying ht]
  simp [h0, getElem?_pos, h1]

/-! ### Ranges over maps -/
theorem OP.range {t kt et : TypeId} {m clock : Nat} {es : Array MapEntry} (hS : St we ρ σ w) (hx : ev e x = some (.map (some m))) (ht : P.underlying t = some (.map kt et)) (hm : Rd ρ σ m (.map es clock)) (hd : Nat.blt d n = true)
    (hk : ∀ r w1, St we ρ (Blk r (.mapIter (some m) clock #[] clock) :: σ) w1 → K ((d, .pointer (some ⟨r, 0, none⟩)) :: e) w1) : OP P n ⟨some d, .range t x, ty, pos, aft, gd⟩ e w K :=
  OP.put (fun a ha => by
    simp only [execOp, ha.ev hx, Sem.run_bind, run_range_map w t kt et m es clock ht (hS.rd hm), Result.andThen_ok, Sem.run_pure]) hd (hk _ _ (hS.alloc _))

/-- A step: nothing is left; or an entry that was not handed out. -/
theorem OP.next {m r clock c0 : Nat} {es : Array MapEntry} {seen : Array Nat} (hS : St we ρ σ w) (hx : ev e x = some (.pointer (some ⟨r, 0, none⟩))) (hT : Take (Blk r (.mapIter (some m) clock seen c0)) σ F) (hm : Rd ρ F m (.map es clock)) (hold : ∀ x ∈ es.toList, x.born < clock) (hsc : clock ≤ c0) (hd : Nat.blt d n = true)
    (hend : (∀ x ∈ es.toList, x.born ∈ seen.toList) → K ((d, .tuple #[.bool false]) :: e) w)
    (hmore : ∀ en ∈ es.toList, en.born ∉ seen.toList → ∀ w1, St we ρ (Blk r (.mapIter (some m) clock (seen.push en.born) clock) :: F) w1 → K ((d, .tuple #[.bool true, en.key, en.val]) :: e) w1) :
    OP P n ⟨some d, .next x false, ty, pos, aft, gd⟩ e w K := by
  have hS1 := hS.take hT
  have hr := hS1.lt .head
  have hmm := hS1.tail.rd hm
  rcases run_next_at (P := P) w ty r m clock c0 seen es clock hr hmm hold hsc with ⟨h0, hrun⟩ | ⟨en, hen, w1, hw1, hrun⟩
  · refine OP.put (fun a ha => ?_) hd (hend fun y hy => ?_)
    · simp only [execOp, ha.ev hx, Sem.run_bind, hrun, Result.andThen_ok, Sem.run_pure]
    · have : leftOf es seen = #[] := Array.eq_empty_of_size_eq_zero h0
      unfold leftOf at this
      rw [Array.filter_eq_empty_iff] at this
      have := this y (by simpa using hy)
      simpa using this
  · unfold leftOf at hen
    simp only [Array.toList_filter, List.mem_filter, Bool.not_eq_true', Array.contains_eq_mem] at hen
    refine OP.put (fun a ha => ?_) hd (hmore en hen.1 (by simpa using hen.2) (setBlock w1 r (.mapIter (some m) clock (seen.push en.born) clock)) ?_)
    · simp only [execOp, ha.ev hx, Sem.run_bind, hrun, Result.andThen_ok, Sem.run_pure]
    · have hS2 : St we ρ (Blk r (.mapIter (some m) clock seen c0) :: F) w1 := by
        rcases hw1 with rfl | rfl
        · exact hS1
        · exact hS1.drew
      have hr2 := hS2.lt .head
      have hlt : r < w1.heap.size := (Array.getElem?_eq_some_iff.1 hr2).1
      exact hS2.write .head rfl rfl rfl (by simp [setBlock]) (by simp [setBlock, hlt]) (fun k hk => by simp [setBlock, Array.getElem?_setIfInBounds, Ne.symm hk])

/-- The entry that the step handed out. -/
theorem Still.entry {m r clock : Nat} {es : Array MapEntry} {seen : Array Nat} {en : MapEntry} (hx : ev e x = some (.pointer (some ⟨r, 0, none⟩))) (hr : Rd ρ σ r (.mapIter (some m) clock (seen.push en.born) clock)) (hm : Rd ρ σ m (.map es clock)) (he : en ∈ es.toList) (hn : (es.toList.map (·.born)).Nodup) :
    Still P n e (St we ρ σ) (.entry x) ty (.tuple #[en.key, en.val]) := Still.mk fun a w ha hS d pos aft g => by
  simp only [execOp, ha.ev hx, Sem.run_bind, run_entry_at w r m clock seen es clock en (hS.rd hr) (hS.rd hm) he hn, Result.andThen_ok, Sem.run_pure]
end
end Go.Proofs.Ythejfodjielahaa
