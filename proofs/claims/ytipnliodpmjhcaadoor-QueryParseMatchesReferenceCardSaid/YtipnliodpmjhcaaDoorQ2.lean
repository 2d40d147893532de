/- KB, KC, KD, KE, KF, KG, KH, KI. -/
import Derived.Test.YtipnliodpmjhcaaDoorQ1
import Derived.Lib.ConvBytes
import Derived.Laws.BytesArg
import Derived.DeepKeys
import Derived.Lib.AppendStr
import Derived.Shelf.Abstract
import Derived.Laws.CopyRow
import Derived.Laws.Cover3
import Derived.Lib.AppendZeros
import Derived.Maps.OwnSet
/- Loads out of rows of numbers; results that lie in memory; bits of unsigned numbers; cuts. -/
namespace Go.Proofs.K
open Go.RowKit
variable {P : Program} {n : NN} {Q : Exit → Fr → World → Prop} {f : Fr} {w : World} {ops : Array Oper} {rest : List Oper}

/-- a list of numbers as cells -/
def ints (k : IntKind) (l : List Nat) : List Value := l.map fun a => .int k (a : Nat)
theorem ints_len (k : IntKind) (l : List Nat) : (ints k l).length = l.length := by simp [ints]
theorem ints_app (k : IntKind) (a b : List Nat) : ints k (a ++ b) = ints k a ++ ints k b := by simp [ints]
theorem ints_get {k : IntKind} {l : List Nat} {i : Nat} (h : i < l.length) : (ints k l)[i]? = some (.int k ((l.getD i 0 : Nat) : Int)) := by
  simp [ints, List.getD_eq_getElem?_getD, h]
theorem ints_cell {k : IntKind} {l : List Nat} : ∀ q ∈ ints k l, q.oneCell' = true := by
  intro q hq
  obtain ⟨b, _, rfl⟩ := List.mem_map.1 hq
  rfl
theorem ints_set (k : IntKind) (l : List Nat) (i a : Nat) : (ints k l).set i (.int k (a : Nat)) = ints k (l.set i a) := by simp [ints, List.map_set]
theorem ints_take (k : IntKind) (l : List Nat) (i : Nat) : (ints k l).take i = ints k (l.take i) := by simp [ints, List.map_take]
theorem ints_drop (k : IntKind) (l : List Nat) (i : Nat) : (ints k l).drop i = ints k (l.drop i) := by simp [ints, List.map_drop]
theorem ints_rep (k : IntKind) (m a : Nat) : (List.replicate m [Value.int k (a : Nat)]).flatten = ints k (List.replicate m a) := by
  induction m with
  | zero => rfl
  | succ m ih => simp only [List.replicate_succ, List.flatten_cons, ih]; rfl

section X
variable {d : Option Tmp} {t ty : TypeId} {pos : String} {af : Array Edge} {g : Option (Nat × Bool)} {x : Operand} {k : IntKind}
theorem X_ld [TOne P ty] {b o : Nat} {T : TypeId} {cs : List Value} {v : Value} (hx : ev n f x = .pointer (some ⟨b, o, none⟩)) (hB : Blk w b T cs) (hv : cs[o]? = some v) : X P n ⟨d, .load ty x, t, pos, af, g⟩ f w = .ok (.value v) w :=
  X_load1 hx (by rw [hB.cell]; exact hv)
theorem X_ldI [TOne P ty] {b o : Nat} {T : TypeId} {l : List Nat} (hx : ev n f x = .pointer (some ⟨b, o, none⟩)) (hB : Blk w b T (ints k l)) (hv : o < l.length) : X P n ⟨d, .load ty x, t, pos, af, g⟩ f w = .ok (.value (.int k ((l.getD o 0 : Nat) : Int))) w :=
  X_ld hx hB (ints_get hv)
theorem X_ldR [TOne P ty] {b o o' : Nat} {cs : List Value} {v : Value} {j : Nat} (hx : ev n f x = .pointer (some ⟨b, o', none⟩)) (hr : w.rangeAt b o cs) (ho : o' = o + j) (hv : cs[j]? = some v) : X P n ⟨d, .load ty x, t, pos, af, g⟩ f w = .ok (.value v) w :=
  X_load1 hx (by subst ho; exact hr j v hv)
/-- an element of a slice of numbers -/
theorem X_ldRI [TOne P ty] {b o j : Nat} {l : List Nat} (hx : ev n f x = .pointer (some ⟨b, o + j * 1, none⟩)) (hr : w.rangeAt b o (ints k l)) (hv : j < l.length) : X P n ⟨d, .load ty x, t, pos, af, g⟩ f w = .ok (.value (.int k ((l.getD j 0 : Nat) : Int))) w :=
  X_ldR hx hr (by omega) (ints_get hv)
theorem X_ldA {size : Nat} [hs : TAgg P ty size] {b o : Nat} {T : TypeId} {cs l : List Value} (hx : ev n f x = .pointer (some ⟨b, o, none⟩)) (hB : Blk w b T cs) (hv : (cs.drop o).take size = l) (hl : l.length = size) : X P n ⟨d, .load ty x, t, pos, af, g⟩ f w = .ok (.value (.agg l.toArray)) w := by
  refine X_loadA hx (fun j u hu => ?_) hl
  rw [hB.cell]
  subst hv
  rw [List.getElem?_take] at hu
  split at hu
  · simpa using hu
  · cases hu
theorem X_ldW {size : Nat} [hs : TAgg P ty size] {b : Nat} {T : TypeId} {cs : List Value} (hx : ev n f x = .pointer (some ⟨b, 0, none⟩)) (hB : Blk w b T cs) (hl : cs.length = size) : X P n ⟨d, .load ty x, t, pos, af, g⟩ f w = .ok (.value (.agg cs.toArray)) w :=
  X_ldA hx hB (by simp [← hl]) hl
end X

section N
variable {d : Option Tmp} {t ty ty' : TypeId} {pos : String} {af : Array Edge} {g : Option (Nat × Bool)} {x y : Operand} {k : IntKind} {a b : Nat}
theorem X_addn (hx : ev n f x = .int .i64 (a : Nat)) (hy : ev n f y = .int .i64 (b : Nat)) (h : a + b ≤ 9223372036854775807) : X P n ⟨d, .binOp .add ty x y ty', t, pos, af, g⟩ f w = .ok (.value (.int .i64 ((a + b : Nat) : Int))) w := by
  rw [X_addi hx hy (by omega)]; rfl
theorem X_subn (hx : ev n f x = .int .i64 (a : Nat)) (hy : ev n f y = .int .i64 (b : Nat)) (h : b ≤ a ∧ a ≤ 9223372036854775807) : X P n ⟨d, .binOp .sub ty x y ty', t, pos, af, g⟩ f w = .ok (.value (.int .i64 ((a - b : Nat) : Int))) w := by
  rw [X_subi hx hy (by omega)]
  congr 4
  omega
theorem X_muln (hx : ev n f x = .int .i64 (a : Nat)) (hy : ev n f y = .int .i64 (b : Nat)) (h : a * b ≤ 9223372036854775807) : X P n ⟨d, .binOp .mul ty x y ty', t, pos, af, g⟩ f w = .ok (.value (.int .i64 ((a * b : Nat) : Int))) w := by
  have e : (a : Int) * (b : Int) = ((a * b : Nat) : Int) := by simp
  rw [X_mul hx hy, e, IntWalk.i64_in _ (by omega)]
theorem X_quon (hx : ev n f x = .int .i64 (a : Nat)) (hy : ev n f y = .int .i64 (b : Nat)) (h : 0 < b ∧ a ≤ 9223372036854775807) : X P n ⟨d, .binOp .quo ty x y ty', t, pos, af, g⟩ f w = .ok (.value (.int .i64 ((a / b : Nat) : Int))) w := by
  have e : (a : Int).tdiv (b : Int) = ((a / b : Nat) : Int) := by
    rw [Int.tdiv_eq_ediv_of_nonneg (by omega)]; rfl
  have hl : a / b ≤ a := Nat.div_le_self _ _
  rw [X_quo hx hy (by omega), e]
  generalize a / b = q at hl
  rw [IntWalk.i64_in _ (by omega)]
theorem X_remn (hx : ev n f x = .int k (a : Nat)) (hy : ev n f y = .int k (b : Nat)) (h : 0 < b) : X P n ⟨d, .binOp .rem ty x y ty', t, pos, af, g⟩ f w = .ok (.value (.int k ((a % b : Nat) : Int))) w := by
  rw [X_rem hx hy (by omega), Int.tmod_eq_emod_of_nonneg (by omega)]; rfl
theorem X_lssn (hx : ev n f x = .int k (a : Nat)) (hy : ev n f y = .int k (b : Nat)) : X P n ⟨d, .binOp .lss ty x y ty', t, pos, af, g⟩ f w = .ok (.value (.bool (decide (a < b)))) w := by
  rw [X_lss hx hy]; congr 4; simp
theorem X_quoi {a b : Int} (hx : ev n f x = .int .i64 a) (hy : ev n f y = .int .i64 b) (h : 0 < b ∧ 0 ≤ a ∧ a ≤ 9223372036854775807) : X P n ⟨d, .binOp .quo ty x y ty', t, pos, af, g⟩ f w = .ok (.value (.int .i64 (a / b))) w := by
  have hl : a / b ≤ a := Int.ediv_le_self _ h.2.1
  have h0 : 0 ≤ a / b := Int.ediv_nonneg h.2.1 (by omega)
  rw [X_quo hx hy (by omega), Int.tdiv_eq_ediv_of_nonneg h.2.1]
  generalize a / b = q at *
  rw [IntWalk.i64_in _ (by omega)]
theorem X_remi {a b : Int} (hx : ev n f x = .int k a) (hy : ev n f y = .int k b) (h : 0 < b ∧ 0 ≤ a) : X P n ⟨d, .binOp .rem ty x y ty', t, pos, af, g⟩ f w = .ok (.value (.int k (a % b))) w := by
  rw [X_rem hx hy (by omega), Int.tmod_eq_emod_of_nonneg h.2]
theorem X_quou {a b : Int} (hx : ev n f x = .int .u64 a) (hy : ev n f y = .int .u64 b) (h : 0 < b ∧ 0 ≤ a ∧ a ≤ 18446744073709551615) : X P n ⟨d, .binOp .quo ty x y ty', t, pos, af, g⟩ f w = .ok (.value (.int .u64 (a / b))) w := by
  have hl : a / b ≤ a := Int.ediv_le_self _ h.2.1
  have h0 : 0 ≤ a / b := Int.ediv_nonneg h.2.1 (by omega)
  rw [X_quo hx hy (by omega), Int.tdiv_eq_ediv_of_nonneg h.2.1]
  generalize a / b = q at *
  rw [IntWalk.u64_in _ (by omega)]
end N
section M
variable {d : Tmp} {t ty : TypeId} {pos : String} {af : Array Edge} {x y : Operand}
/-- a new variable, under a name -/
theorem L_alloc {z : List Value} [hz : TZero P ty z] (h : ∀ g w', Blk w' g ty z → w.heap.size = g → Ext w w' → w'.heap.size = g + 1 → L P n ops Q rest (upd f d (.pointer (some ⟨g, 0, none⟩))) w') :
    L P n ops Q (⟨some d, .alloc ty, t, pos, af, none⟩ :: rest) f w := by
  obtain ⟨v, hv, hc⟩ := hz.h
  have hsz := hz.s
  cases hq : P.info? ty with
  | none => simp [hq] at hv
  | some i =>
    have h0 : i.zero = some v := by simpa [hq] using hv
    haveI : TInfo P ty i.size i.bytes v := ⟨by simp [hq, h0]⟩
    refine Ls X_alloc (h _ _ ?_ rfl (grown_alloc _ _) (by simp))
    rw [hc]; exact Blk.new _ _ _
theorem L_box {l : List Value} (hx : ev n f x = .agg l.toArray) (h : ∀ g w', Blk w' g ty l → w.heap.size = g → Ext w w' → w'.heap.size = g + 1 → L P n ops Q rest (upd f d (.pointer (some ⟨g, 0, none⟩))) w') :
    L P n ops Q (⟨some d, .box ty x, t, pos, af, none⟩ :: rest) f w :=
  Ls (X_box hx) (h _ _ (Blk.new _ _ _) rfl (grown_alloc _ _) (by simp))
theorem L_box1 {v : Value} (hx : ev n f x = v) (h1 : v.oneCell' = true) (h : ∀ g w', Blk w' g ty [v] → w.heap.size = g → Ext w w' → w'.heap.size = g + 1 → L P n ops Q rest (upd f d (.pointer (some ⟨g, 0, none⟩))) w') :
    L P n ops Q (⟨some d, .box ty x, t, pos, af, none⟩ :: rest) f w :=
  Ls (X_box1 hx (by cases v <;> first | rfl | cases h1)) (h _ _ (Blk.new _ _ _) rfl (grown_alloc _ _) (by simp))
/-- a store into a block of the call's own -/
theorem L_store1 [TOne P ty] {b o : Nat} {T : TypeId} {cs : List Value} {v : Value} (hx : ev n f x = .pointer (some ⟨b, o, none⟩)) (hy : ev n f y = v) (h1 : v.oneCell' = true) (hB : Blk w b T cs) (ho : o < cs.length)
    (h : ∀ w', Blk w' b T (cs.set o v) → w.grownBy w' (some b) → w'.heap.size = w.heap.size → L P n ops Q rest f w') : L P n ops Q (⟨none, .store ty x y, t, pos, af, none⟩ :: rest) f w :=
  Ln (X_store1 hx hy h1 hB ho) (h _ (hB.setRow _) (grown_setRow _ _ _) (by simp [World.setRow]))
theorem L_storeA {size : Nat} [TAgg P ty size] {b o : Nat} {T : TypeId} {cs l : List Value} (hx : ev n f x = .pointer (some ⟨b, o, none⟩)) (hy : ev n f y = .agg l.toArray) (hl : l.length = size) (h1 : ∀ v ∈ l, v.oneCell' = true) (hB : Blk w b T cs) (ho : o + size ≤ cs.length)
    (h : ∀ w', Blk w' b T (cs.take o ++ l ++ cs.drop (o + size)) → w.grownBy w' (some b) → w'.heap.size = w.heap.size → L P n ops Q rest f w') : L P n ops Q (⟨none, .store ty x y, t, pos, af, none⟩ :: rest) f w :=
  Ln (X_storeA hx hy hl h1 hB ho) (h _ (hB.setRow _) (grown_setRow _ _ _) (by simp [World.setRow]))
/-- a whole variable is stored -/
theorem L_storeW {size : Nat} [TAgg P ty size] {b : Nat} {T : TypeId} {cs l : List Value} (hx : ev n f x = .pointer (some ⟨b, 0, none⟩)) (hy : ev n f y = .agg l.toArray) (hl : l.length = size) (h1 : ∀ v ∈ l, v.oneCell' = true) (hB : Blk w b T cs) (ho : cs.length = size)
    (h : ∀ w', Blk w' b T l → w.grownBy w' (some b) → w'.heap.size = w.heap.size → L P n ops Q rest f w') : L P n ops Q (⟨none, .store ty x y, t, pos, af, none⟩ :: rest) f w :=
  L_storeA hx hy hl h1 hB (by omega) fun w' hB' => h w' (by
    rw [List.drop_eq_nil_of_le (by omega)] at hB'
    simpa using hB')
/-- a call whose result is known -/
theorem L_fv {id : FuncId} [TFun P id] {l : List Operand} {vl : List Value} {tys : Array TypeId} {V : Value} (ha : l.map (ev n f) = vl) (c : Calls P id vl.toArray w fun e w' => e = .returned V ∧ Ext w w')
    (h : ∀ w', Ext w w' → L P n ops Q rest (upd f d V) w') : L P n ops Q (⟨some d, .call ⟨.value (.func id), l.toArray, tys⟩, t, pos, af, none⟩ :: rest) f w :=
  L_fn c ha fun _ w' ⟨he, hE⟩ => ⟨V, he, h w' hE⟩
theorem L_fo {F : Value → World → Prop} {id : FuncId} [TFun P id] {l : List Operand} {vl : List Value} {tys : Array TypeId} (ha : l.map (ev n f) = vl) (c : Calls P id vl.toArray w fun e w' => ∃ v, e = .returned v ∧ F v w')
    (h : ∀ v w', F v w' → L P n ops Q rest (upd f d v) w') : L P n ops Q (⟨some d, .call ⟨.value (.func id), l.toArray, tys⟩, t, pos, af, none⟩ :: rest) f w :=
  L_fn c ha fun _ w' ⟨v, he, hF⟩ => ⟨v, he, h v w' hF⟩
end M
theorem tab_set (A : List Nat) (m x i : Nat) (hi : i = A.length) : (A ++ List.replicate (m + 1) 0).set i x = (A ++ [x]) ++ List.replicate m 0 := by
  subst hi
  rw [List.set_append_right _ _ (Nat.le_refl _)]
  simp [List.replicate_succ]
theorem tab_get (A : List Nat) (m i : Nat) (hi : i < A.length) : (A ++ List.replicate m 0).getD i 0 = A.getD i 0 := by
  rw [List.getD_eq_getElem?_getD, List.getD_eq_getElem?_getD, List.getElem?_append_left hi]
/-! a literal that gives every place -/
theorem Parts.from_ {z0 : Value} : ∀ (xs : List Operand) (vs : List Value) (i : Nat) (pre : List (List Value)), xs.map (ev n f) = vs → (∀ v ∈ vs, v.oneCell' = true) → pre.length = i →
    Parts n f (pre ++ List.replicate xs.length [z0]) ((xs.zipIdx i).map fun p => (p.2, p.1)) (pre ++ vs.map fun v => [v])
  | [], vs, i, pre, hv, _, _ => by subst hv; simp; exact .nil _
  | x :: xs, vs, i, pre, hv, h1, hi => by
    subst hv
    have hx1 : (ev n f x).oneCell' = true := h1 _ (by simp)
    have hc : (ev n f x).cells = [ev n f x].toArray := by cases hq : ev n f x <;> first | rfl | (rw [hq] at hx1; cases hx1)
    have ih := Parts.from_ (z0 := z0) xs _ (i + 1) (pre ++ [[ev n f x]]) rfl (fun v hv => h1 v (by simp only [List.map_cons, List.mem_cons]; exact .inr hv)) (by simp [hi])
    simp only [List.zipIdx_cons, List.map_cons, List.length_cons, List.replicate_succ]
    refine Parts.cons (v := ev n f x) (c := [ev n f x]) (z := [z0]) rfl hc ?_ rfl ?_
    · rw [List.getElem?_append_right (by omega)]; simp [hi]
    · have hset : (pre ++ [z0] :: List.replicate xs.length [z0]).set i [ev n f x] = (pre ++ [[ev n f x]]) ++ List.replicate xs.length [z0] := by
        rw [List.set_append_right _ _ (by omega), ← hi]; simp
      rw [hset]
      have e : pre ++ [ev n f x] :: (xs.map (ev n f)).map (fun v => [v]) = (pre ++ [[ev n f x]]) ++ (xs.map (ev n f)).map (fun v => [v]) := by simp
      rw [e]; exact ih
theorem flat_ones (vs : List Value) : (vs.map fun v => [v]).flatten = vs := by
  induction vs with
  | nil => rfl
  | cons v vs ih => simp only [List.map_cons, List.flatten_cons, ih]; rfl
theorem X_arrFull {P : Program} {d : Option Tmp} {t ty e : TypeId} {pos : String} {af : Array Edge} {g : Option (Nat × Bool)} {z0 : Value} {len : Nat} [hs : TArr P ty len e] [hz : TZero P e [z0]] [ha : TZero P ty (List.replicate len [z0]).flatten] {r : List (Nat × Operand)} {vs : List Value}
    (hr : ((r.map (·.2)).zipIdx.map fun p => (p.2, p.1)) = r) (hlen : (r.map (·.2)).length = len) (hx : (r.map (·.2)).map (ev n f) = vs) (h1 : ∀ v ∈ vs, v.oneCell' = true) :
    X P n ⟨d, .build ty r.toArray, t, pos, af, g⟩ f w = .ok (.value (.agg vs.toArray)) w := by
  have hp := Parts.from_ (z0 := z0) (r.map (·.2)) vs 0 [] hx h1 rfl
  simp only [List.nil_append] at hp
  rw [hr, hlen] at hp
  have := X_buildArr (P := P) (w := w) (d := d) (t := t) (pos := pos) (af := af) (g := g) (ty := ty) (z := [z0]) (len := len) hp
  rw [flat_ones] at this
  exact this
/-- a literal without a part: the zero value -/
theorem X_arrZero {P : Program} {d : Option Tmp} {t ty : TypeId} {pos : String} {af : Array Edge} {g : Option (Nat × Bool)} {len : Nat} {e : TypeId} {z : List Value} [hs : TArr P ty len e] [hz : TZero P e z] [ha : TZero P ty (List.replicate len z).flatten] :
    X P n ⟨d, .build ty #[], t, pos, af, g⟩ f w = .ok (.value (.agg (List.replicate len z).flatten.toArray)) w :=
  X_buildArr (r := []) (Parts.nil _)
section C
variable {d : Option Tmp} {t ty ty' : TypeId} {pos : String} {af : Array Edge} {g : Option (Nat × Bool)} {x y : Operand} {k : IntKind} {a b : Int}
theorem X_lssT (hx : ev n f x = .int k a) (hy : ev n f y = .int k b) (h : a < b) : X P n ⟨d, .binOp .lss ty x y ty', t, pos, af, g⟩ f w = .ok (.value (.bool true)) w := by
  rw [X_lss hx hy, decide_eq_true h]
theorem X_lssF (hx : ev n f x = .int k a) (hy : ev n f y = .int k b) (h : ¬ a < b) : X P n ⟨d, .binOp .lss ty x y ty', t, pos, af, g⟩ f w = .ok (.value (.bool false)) w := by
  rw [X_lss hx hy, decide_eq_false h]
theorem X_leqT (hx : ev n f x = .int k a) (hy : ev n f y = .int k b) (h : a ≤ b) : X P n ⟨d, .binOp .leq ty x y ty', t, pos, af, g⟩ f w = .ok (.value (.bool true)) w := by
  rw [X_leq hx hy, decide_eq_true h]
theorem X_leqF (hx : ev n f x = .int k a) (hy : ev n f y = .int k b) (h : ¬ a ≤ b) : X P n ⟨d, .binOp .leq ty x y ty', t, pos, af, g⟩ f w = .ok (.value (.bool false)) w := by
  rw [X_leq hx hy, decide_eq_false h]
theorem X_gtrT (hx : ev n f x = .int k a) (hy : ev n f y = .int k b) (h : b < a) : X P n ⟨d, .binOp .gtr ty x y ty', t, pos, af, g⟩ f w = .ok (.value (.bool true)) w := by
  rw [X_gtr hx hy, decide_eq_true h]
theorem X_gtrF (hx : ev n f x = .int k a) (hy : ev n f y = .int k b) (h : ¬ b < a) : X P n ⟨d, .binOp .gtr ty x y ty', t, pos, af, g⟩ f w = .ok (.value (.bool false)) w := by
  rw [X_gtr hx hy, decide_eq_false h]
theorem X_geqT (hx : ev n f x = .int k a) (hy : ev n f y = .int k b) (h : b ≤ a) : X P n ⟨d, .binOp .geq ty x y ty', t, pos, af, g⟩ f w = .ok (.value (.bool true)) w := by
  rw [X_geq hx hy, decide_eq_true h]
theorem X_geqF (hx : ev n f x = .int k a) (hy : ev n f y = .int k b) (h : ¬ b ≤ a) : X P n ⟨d, .binOp .geq ty x y ty', t, pos, af, g⟩ f w = .ok (.value (.bool false)) w := by
  rw [X_geq hx hy, decide_eq_false h]
theorem X_eqlT (hx : ev n f x = .int k a) (hy : ev n f y = .int k b) (h : a = b) : X P n ⟨d, .binOp .eql ty x y ty', t, pos, af, g⟩ f w = .ok (.value (.bool true)) w := by
  rw [X_eql hx hy, decide_eq_true h]
theorem X_eqlF (hx : ev n f x = .int k a) (hy : ev n f y = .int k b) (h : ¬ a = b) : X P n ⟨d, .binOp .eql ty x y ty', t, pos, af, g⟩ f w = .ok (.value (.bool false)) w := by
  rw [X_eql hx hy, decide_eq_false h]
theorem X_neqT (hx : ev n f x = .int k a) (hy : ev n f y = .int k b) (h : a ≠ b) : X P n ⟨d, .binOp .neq ty x y ty', t, pos, af, g⟩ f w = .ok (.value (.bool true)) w := by
  rw [X_neq hx hy, decide_eq_true h]
theorem X_neqF (hx : ev n f x = .int k a) (hy : ev n f y = .int k b) (h : ¬ a ≠ b) : X P n ⟨d, .binOp .neq ty x y ty', t, pos, af, g⟩ f w = .ok (.value (.bool false)) w := by
  rw [X_neq hx hy, decide_eq_false h]
theorem X_lenRow {e : TypeId} [TSlice P ty e] {lo hi size m : Nat} {v : Value} {xs : List Value} {wr : World} (hx : ev n f x = v) (hr : Row wr lo hi size v m xs) : X P n ⟨d, .call ⟨.builtin .len, #[x], #[ty]⟩, t, pos, af, g⟩ f w = .ok (.value (.int .i64 (m : Nat))) w := by
  obtain ⟨_, A, c, rfl, _⟩ := hr
  exact X_lenSlice hx
theorem X_notB {q r : Bool} (hx : ev n f x = .bool q) (h : (!q) = r) : X P n ⟨d, .unOp .not ty x, t, pos, af, g⟩ f w = .ok (.value (.bool r)) w := by rw [X_not hx, h]
end C
theorem W_condT {c : Operand} {x y : Code} (hc : ev n f c = .bool true) (h : W P n x Q f w) : W P n (.cond c x y) Q f w := W_cond hc (fun _ => h) (fun h => by cases h)
theorem W_condF {c : Operand} {x y : Code} (hc : ev n f c = .bool false) (h : W P n y Q f w) : W P n (.cond c x y) Q f w := W_cond hc (fun h => by cases h) (fun _ => h)
theorem Lg {d : Tmp} {op : Op} {t : TypeId} {pos : String} {af : Array Edge} {gd : Nat × Bool} {v : Value} (hw : wants n ops f ⟨some d, op, t, pos, af, some gd⟩ = true) (hr : X P n ⟨some d, op, t, pos, af, none⟩ f w = .ok (.value v) w) (h : L P n ops Q rest (upd f d v) w) :
    L P n ops Q (⟨some d, op, t, pos, af, some gd⟩ :: rest) f w := L_on hw (Run_val (o := ⟨some d, op, t, pos, af, some gd⟩) hr h)
theorem Lo {d : Option Tmp} {op : Op} {t : TypeId} {pos : String} {af : Array Edge} {gd : Nat × Bool} (hw : wants n ops f ⟨d, op, t, pos, af, some gd⟩ = false) (h : L P n ops Q rest (updo f d undef) w) :
    L P n ops Q (⟨d, op, t, pos, af, some gd⟩ :: rest) f w := L_off hw h
theorem wants_at {o : Oper} {j : Nat} {want b : Bool} {t' : Tmp} (hg : o.guard = some (j, want)) (hd : (ops[j]?).bind (·.dst) = some t') (hn : Nat.blt t' n.k = true) (hv : f t' = .bool b) : wants n ops f o = (b == want) := by
  rw [wants_strip hg]
  have hlt : t' < n.k := by rwa [Nat.blt_eq] at hn
  have : yielded ops (arr n f) j = some b := by
    unfold yielded
    rw [hd]
    simp only [Option.bind_some, arr_get?, hlt, if_true, hv]
  rw [this]
  cases b <;> cases want <;> rfl
theorem Lg2 {d : Tmp} {op : Op} {t : TypeId} {pos : String} {af : Array Edge} {j : Nat} {want : Bool} {t' : Tmp} {v : Value} (hd : (ops[j]?).bind (·.dst) = some t') (hn : Nat.blt t' n.k = true) (hv : f t' = .bool want) (hr : X P n ⟨some d, op, t, pos, af, none⟩ f w = .ok (.value v) w) (h : L P n ops Q rest (upd f d v) w) :
    L P n ops Q (⟨some d, op, t, pos, af, some (j, want)⟩ :: rest) f w := Lg ((wants_at rfl hd hn hv).trans (by cases want <;> rfl)) hr h
theorem Lo2 {d : Option Tmp} {op : Op} {t : TypeId} {pos : String} {af : Array Edge} {j : Nat} {want b : Bool} {t' : Tmp} (hd : (ops[j]?).bind (·.dst) = some t') (hn : Nat.blt t' n.k = true) (hv : f t' = .bool b) (hb : (b == want) = false) (h : L P n ops Q rest (updo f d undef) w) :
    L P n ops Q (⟨d, op, t, pos, af, some (j, want)⟩ :: rest) f w := Lo ((wants_at rfl hd hn hv).trans hb) h
theorem i_ng {d : Option Tmp} {op : Op} {t : TypeId} {pos : String} {af : Array Edge} (h : L P n ops Q (⟨d, op, t, pos, af, none⟩ :: rest) f w) : L P n ops Q (⟨d, op, t, pos, af, none⟩ :: rest) f w := h
theorem i_gd {d : Option Tmp} {op : Op} {t : TypeId} {pos : String} {af : Array Edge} {gd : Nat × Bool} (h : L P n ops Q (⟨d, op, t, pos, af, some gd⟩ :: rest) f w) : L P n ops Q (⟨d, op, t, pos, af, some gd⟩ :: rest) f w := h
/-! results -/
inductive Res (P : Program) (n : NN) (f : Fr) (w : World) : List ResultVar → List Value → Prop
  | nil : Res P n f w [] []
  | tmp {t : Tmp} {v : Value} {l : List ResultVar} {vs : List Value} (h : ev n f (.tmp t) = v) (r : Res P n f w l vs) : Res P n f w (.tmp t :: l) (v :: vs)
  | cellA {p : Tmp} {ty b size : Nat} {cs : List Value} {l : List ResultVar} {vs : List Value} (hs : TAgg P ty size) (hp : ev n f (.tmp p) = .pointer (some ⟨b, 0, none⟩)) (hc : w.rangeAt b 0 cs) (hl : cs.length = size) (r : Res P n f w l vs) : Res P n f w (.cell p ty :: l) (.agg cs.toArray :: vs)
  | cell1 {p : Tmp} {ty b : Nat} {v : Value} {l : List ResultVar} {vs : List Value} (hs : TOne P ty) (hp : ev n f (.tmp p) = .pointer (some ⟨b, 0, none⟩)) (hc : w.cell? ⟨b, 0, none⟩ = some v) (r : Res P n f w l vs) : Res P n f w (.cell p ty :: l) (v :: vs)
def resVal : List Value → Value
  | [v] => v
  | vs => .tuple vs.toArray
def resF (tmps : Array Value) : ResultVar → Sem Value
  | .tmp t => pure (tmps.getD t undef)
  | .cell a t => do loadVar t (← asAddr (tmps.getD a undef))
theorem results_eq (fn : Func) (tmps : Array Value) : results fn tmps = (do let vs ← fn.results.mapM (resF tmps); pure (if h : vs.size = 1 then vs[0] else .tuple vs)) := by
  unfold results
  congr 1
theorem Res.run {l : List ResultVar} {vs : List Value} (h : Res P n f w l vs) : (l.mapM (m := Sem) (resF (arr n f))).run P w = .ok vs w := by
  induction h with
  | nil => simp
  | @tmp t v l vs hh r ih =>
    have e : (arr n f).getD t undef = v := by rw [arr_getD]; exact hh
    rw [List.mapM_cons, Sem.run_bind]
    simp only [resF, e, Sem.run_pure, Result.andThen_ok, Sem.run_bind, ih]
  | @cellA p ty b size cs l vs hs hp hc hl r ih =>
    have e : (arr n f).getD p undef = .pointer (some ⟨b, 0, none⟩) := by rw [arr_getD]; exact hp
    obtain ⟨D, hD, hd⟩ := hs.h
    rw [List.mapM_cons, Sem.run_bind]
    have ea : asAddr ((arr n f).getD p undef) = pure ⟨b, 0, none⟩ := by rw [e]; rfl
    simp only [resF, ea, Sem.run_bind, Sem.run_pure, Result.andThen_ok]
    rw [run_loadVar_mid w b 0 ty cs D hc hD hd (by rw [hs.s, hl])]
    simp only [Result.andThen_ok, ih]
  | @cell1 p ty b v l vs hs hp hc r ih =>
    have e : (arr n f).getD p undef = .pointer (some ⟨b, 0, none⟩) := by rw [arr_getD]; exact hp
    obtain ⟨D, hD, hd⟩ := hs.h
    have hload : (loadVar ty ⟨b, 0, none⟩).run P w = .ok v w := by
      have ha : (isAgg ty).run P w = .ok false w := by
        unfold isAgg
        rw [Sem.run_bind, run_underlying hD]
        cases D <;> simp_all
      simp [loadVar, ha, load, Sem.run, hc]
    rw [List.mapM_cons, Sem.run_bind]
    have ea : asAddr ((arr n f).getD p undef) = pure ⟨b, 0, none⟩ := by rw [e]; rfl
    simp only [resF, ea, Sem.run_bind, Sem.run_pure, Result.andThen_ok]
    rw [hload]
    simp only [Result.andThen_ok, ih]
theorem leaveQ_res {fn : Func} {R : Ending → World → Prop} {l : List ResultVar} {vs : List Value} (hr : fn.results = l.toArray) (h : Res P n f w l vs) (hR : R (.returned (resVal vs)) w) : leaveQ P fn R (arr n f) [] w := by
  refine ⟨resVal vs, ?_, hR⟩
  have := h.run
  rw [results_eq, Sem.run_bind, hr, map_run, Sem.run_bind, this]
  simp only [Result.andThen_ok, Sem.run_pure]
  cases vs with
  | nil => rfl
  | cons v vs =>
    cases vs with
    | nil => rfl
    | cons u vs => simp [resVal]
theorem endQ_res {fn : Func} {R : Ending → World → Prop} {l : List ResultVar} {vs : List Value} (hr : fn.results = l.toArray) (hn : n.dv = []) (h : Res P n f w l vs) (hR : R (.returned (resVal vs)) w) : endQ P n fn R .ret f w := by
  show leaveQ P fn R (arr n f) n.dv w
  rw [hn]
  exact leaveQ_res hr h hR
/-- leaving behind one range over a function -/
theorem endQ_resD {fn : Func} {R : Ending → World → Prop} {l : List ResultVar} {vs : List Value} {D : Nat} (hr : fn.results = l.toArray) (hn : n.dv = [{ target := .collected D, args := #[] }]) (hD : w.heap[D]? = some (.deferred (some [])))
    (h : Res P n f (w.putObj D (.deferred none)) l vs) (hR : R (.returned (resVal vs)) (w.putObj D (.deferred none))) : endQ P n fn R .ret f w := by
  show leaveQ P fn R (arr n f) n.dv w
  rw [hn]
  exact ⟨D, rfl, hD, leaveQ_res hr h hR⟩
/-- cutting: the rest of a body from what its first part leaves -/
theorem W_cut {c c' : Code} (M : Fr → World → Prop) (h : W P n c (thenQ M Q) f w) (h' : ∀ f w, M f w → W P n c' Q f w) : W P n (.seq c c') Q f w := by
  refine W_seq (W_mono h fun e f w hq => ?_)
  cases e <;> first | exact h' _ _ hq | exact hq

/-! forgetting the slots that are not named -/
theorem shrink1 (d0 : Nat) {c : Code} {v0 : Value} (h0 : f d0 = v0) (H : ∀ g, W P n c Q (upd g d0 v0) w) : W P n c Q f w := by
  have := H f
  subst h0
  simpa only [upd_self] using this
theorem shrink2 (d0 d1 : Nat) {c : Code} {v0 v1 : Value} (h0 : f d0 = v0) (h1 : f d1 = v1) (H : ∀ g, W P n c Q (upd (upd g d0 v0) d1 v1) w) : W P n c Q f w := by
  have := H f
  subst h0 h1
  simpa only [upd_self] using this
theorem shrink3 (d0 d1 d2 : Nat) {c : Code} {v0 v1 v2 : Value} (h0 : f d0 = v0) (h1 : f d1 = v1) (h2 : f d2 = v2) (H : ∀ g, W P n c Q (upd (upd (upd g d0 v0) d1 v1) d2 v2) w) : W P n c Q f w := by
  have := H f
  subst h0 h1 h2
  simpa only [upd_self] using this
theorem shrink4 (d0 d1 d2 d3 : Nat) {c : Code} {v0 v1 v2 v3 : Value} (h0 : f d0 = v0) (h1 : f d1 = v1) (h2 : f d2 = v2) (h3 : f d3 = v3) (H : ∀ g, W P n c Q (upd (upd (upd (upd g d0 v0) d1 v1) d2 v2) d3 v3) w) : W P n c Q f w := by
  have := H f
  subst h0 h1 h2 h3
  simpa only [upd_self] using this
theorem shrink5 (d0 d1 d2 d3 d4 : Nat) {c : Code} {v0 v1 v2 v3 v4 : Value} (h0 : f d0 = v0) (h1 : f d1 = v1) (h2 : f d2 = v2) (h3 : f d3 = v3) (h4 : f d4 = v4) (H : ∀ g, W P n c Q (upd (upd (upd (upd (upd g d0 v0) d1 v1) d2 v2) d3 v3) d4 v4) w) : W P n c Q f w := by
  have := H f
  subst h0 h1 h2 h3 h4
  simpa only [upd_self] using this
theorem shrink6 (d0 d1 d2 d3 d4 d5 : Nat) {c : Code} {v0 v1 v2 v3 v4 v5 : Value} (h0 : f d0 = v0) (h1 : f d1 = v1) (h2 : f d2 = v2) (h3 : f d3 = v3) (h4 : f d4 = v4) (h5 : f d5 = v5) (H : ∀ g, W P n c Q (upd (upd (upd (upd (upd (upd g d0 v0) d1 v1) d2 v2) d3 v3) d4 v4) d5 v5) w) : W P n c Q f w := by
  have := H f
  subst h0 h1 h2 h3 h4 h5
  simpa only [upd_self] using this
theorem shrink7 (d0 d1 d2 d3 d4 d5 d6 : Nat) {c : Code} {v0 v1 v2 v3 v4 v5 v6 : Value} (h0 : f d0 = v0) (h1 : f d1 = v1) (h2 : f d2 = v2) (h3 : f d3 = v3) (h4 : f d4 = v4) (h5 : f d5 = v5) (h6 : f d6 = v6) (H : ∀ g, W P n c Q (upd (upd (upd (upd (upd (upd (upd g d0 v0) d1 v1) d2 v2) d3 v3) d4 v4) d5 v5) d6 v6) w) : W P n c Q f w := by
  have := H f
  subst h0 h1 h2 h3 h4 h5 h6
  simpa only [upd_self] using this
theorem shrink8 (d0 d1 d2 d3 d4 d5 d6 d7 : Nat) {c : Code} {v0 v1 v2 v3 v4 v5 v6 v7 : Value} (h0 : f d0 = v0) (h1 : f d1 = v1) (h2 : f d2 = v2) (h3 : f d3 = v3) (h4 : f d4 = v4) (h5 : f d5 = v5) (h6 : f d6 = v6) (h7 : f d7 = v7) (H : ∀ g, W P n c Q (upd (upd (upd (upd (upd (upd (upd (upd g d0 v0) d1 v1) d2 v2) d3 v3) d4 v4) d5 v5) d6 v6) d7 v7) w) : W P n c Q f w := by
  have := H f
  subst h0 h1 h2 h3 h4 h5 h6 h7
  simpa only [upd_self] using this
theorem shrink9 (d0 d1 d2 d3 d4 d5 d6 d7 d8 : Nat) {c : Code} {v0 v1 v2 v3 v4 v5 v6 v7 v8 : Value} (h0 : f d0 = v0) (h1 : f d1 = v1) (h2 : f d2 = v2) (h3 : f d3 = v3) (h4 : f d4 = v4) (h5 : f d5 = v5) (h6 : f d6 = v6) (h7 : f d7 = v7) (h8 : f d8 = v8) (H : ∀ g, W P n c Q (upd (upd (upd (upd (upd (upd (upd (upd (upd g d0 v0) d1 v1) d2 v2) d3 v3) d4 v4) d5 v5) d6 v6) d7 v7) d8 v8) w) : W P n c Q f w := by
  have := H f
  subst h0 h1 h2 h3 h4 h5 h6 h7 h8
  simpa only [upd_self] using this
theorem shrink10 (d0 d1 d2 d3 d4 d5 d6 d7 d8 d9 : Nat) {c : Code} {v0 v1 v2 v3 v4 v5 v6 v7 v8 v9 : Value} (h0 : f d0 = v0) (h1 : f d1 = v1) (h2 : f d2 = v2) (h3 : f d3 = v3) (h4 : f d4 = v4) (h5 : f d5 = v5) (h6 : f d6 = v6) (h7 : f d7 = v7) (h8 : f d8 = v8) (h9 : f d9 = v9) (H : ∀ g, W P n c Q (upd (upd (upd (upd (upd (upd (upd (upd (upd (upd g d0 v0) d1 v1) d2 v2) d3 v3) d4 v4) d5 v5) d6 v6) d7 v7) d8 v8) d9 v9) w) : W P n c Q f w := by
  have := H f
  subst h0 h1 h2 h3 h4 h5 h6 h7 h8 h9
  simpa only [upd_self] using this
theorem shrink11 (d0 d1 d2 d3 d4 d5 d6 d7 d8 d9 d10 : Nat) {c : Code} {v0 v1 v2 v3 v4 v5 v6 v7 v8 v9 v10 : Value} (h0 : f d0 = v0) (h1 : f d1 = v1) (h2 : f d2 = v2) (h3 : f d3 = v3) (h4 : f d4 = v4) (h5 : f d5 = v5) (h6 : f d6 = v6) (h7 : f d7 = v7) (h8 : f d8 = v8) (h9 : f d9 = v9) (h10 : f d10 = v10) (H : ∀ g, W P n c Q (upd (upd (upd (upd (upd (upd (upd (upd (upd (upd (upd g d0 v0) d1 v1) d2 v2) d3 v3) d4 v4) d5 v5) d6 v6) d7 v7) d8 v8) d9 v9) d10 v10) w) : W P n c Q f w := by
  have := H f
  subst h0 h1 h2 h3 h4 h5 h6 h7 h8 h9 h10
  simpa only [upd_self] using this
theorem shrink12 (d0 d1 d2 d3 d4 d5 d6 d7 d8 d9 d10 d11 : Nat) {c : Code} {v0 v1 v2 v3 v4 v5 v6 v7 v8 v9 v10 v11 : Value} (h0 : f d0 = v0) (h1 : f d1 = v1) (h2 : f d2 = v2) (h3 : f d3 = v3) (h4 : f d4 = v4) (h5 : f d5 = v5) (h6 : f d6 = v6) (h7 : f d7 = v7) (h8 : f d8 = v8) (h9 : f d9 = v9) (h10 : f d10 = v10) (h11 : f d11 = v11) (H : ∀ g, W P n c Q (upd (upd (upd (upd (upd (upd (upd (upd (upd (upd (upd (upd g d0 v0) d1 v1) d2 v2) d3 v3) d4 v4) d5 v5) d6 v6) d7 v7) d8 v8) d9 v9) d10 v10) d11 v11) w) : W P n c Q f w := by
  have := H f
  subst h0 h1 h2 h3 h4 h5 h6 h7 h8 h9 h10 h11
  simpa only [upd_self] using this
theorem shrink13 (d0 d1 d2 d3 d4 d5 d6 d7 d8 d9 d10 d11 d12 : Nat) {c : Code} {v0 v1 v2 v3 v4 v5 v6 v7 v8 v9 v10 v11 v12 : Value} (h0 : f d0 = v0) (h1 : f d1 = v1) (h2 : f d2 = v2) (h3 : f d3 = v3) (h4 : f d4 = v4) (h5 : f d5 = v5) (h6 : f d6 = v6) (h7 : f d7 = v7) (h8 : f d8 = v8) (h9 : f d9 = v9) (h10 : f d10 = v10) (h11 : f d11 = v11) (h12 : f d12 = v12) (H : ∀ g, W P n c Q (upd (upd (upd (upd (upd (upd (upd (upd (upd (upd (upd (upd (upd g d0 v0) d1 v1) d2 v2) d3 v3) d4 v4) d5 v5) d6 v6) d7 v7) d8 v8) d9 v9) d10 v10) d11 v11) d12 v12) w) : W P n c Q f w := by
  have := H f
  subst h0 h1 h2 h3 h4 h5 h6 h7 h8 h9 h10 h11 h12
  simpa only [upd_self] using this
theorem shrink14 (d0 d1 d2 d3 d4 d5 d6 d7 d8 d9 d10 d11 d12 d13 : Nat) {c : Code} {v0 v1 v2 v3 v4 v5 v6 v7 v8 v9 v10 v11 v12 v13 : Value} (h0 : f d0 = v0) (h1 : f d1 = v1) (h2 : f d2 = v2) (h3 : f d3 = v3) (h4 : f d4 = v4) (h5 : f d5 = v5) (h6 : f d6 = v6) (h7 : f d7 = v7) (h8 : f d8 = v8) (h9 : f d9 = v9) (h10 : f d10 = v10) (h11 : f d11 = v11) (h12 : f d12 = v12) (h13 : f d13 = v13) (H : ∀ g, W P n c Q (upd (upd (upd (upd (upd (upd (upd (upd (upd (upd (upd (upd (upd (upd g d0 v0) d1 v1) d2 v2) d3 v3) d4 v4) d5 v5) d6 v6) d7 v7) d8 v8) d9 v9) d10 v10) d11 v11) d12 v12) d13 v13) w) : W P n c Q f w := by
  have := H f
  subst h0 h1 h2 h3 h4 h5 h6 h7 h8 h9 h10 h11 h12 h13
  simpa only [upd_self] using this
theorem shrink15 (d0 d1 d2 d3 d4 d5 d6 d7 d8 d9 d10 d11 d12 d13 d14 : Nat) {c : Code} {v0 v1 v2 v3 v4 v5 v6 v7 v8 v9 v10 v11 v12 v13 v14 : Value} (h0 : f d0 = v0) (h1 : f d1 = v1) (h2 : f d2 = v2) (h3 : f d3 = v3) (h4 : f d4 = v4) (h5 : f d5 = v5) (h6 : f d6 = v6) (h7 : f d7 = v7) (h8 : f d8 = v8) (h9 : f d9 = v9) (h10 : f d10 = v10) (h11 : f d11 = v11) (h12 : f d12 = v12) (h13 : f d13 = v13) (h14 : f d14 = v14) (H : ∀ g, W P n c Q (upd (upd (upd (upd (upd (upd (upd (upd (upd (upd (upd (upd (upd (upd (upd g d0 v0) d1 v1) d2 v2) d3 v3) d4 v4) d5 v5) d6 v6) d7 v7) d8 v8) d9 v9) d10 v10) d11 v11) d12 v12) d13 v13) d14 v14) w) : W P n c Q f w := by
  have := H f
  subst h0 h1 h2 h3 h4 h5 h6 h7 h8 h9 h10 h11 h12 h13 h14
  simpa only [upd_self] using this
theorem shrink16 (d0 d1 d2 d3 d4 d5 d6 d7 d8 d9 d10 d11 d12 d13 d14 d15 : Nat) {c : Code} {v0 v1 v2 v3 v4 v5 v6 v7 v8 v9 v10 v11 v12 v13 v14 v15 : Value} (h0 : f d0 = v0) (h1 : f d1 = v1) (h2 : f d2 = v2) (h3 : f d3 = v3) (h4 : f d4 = v4) (h5 : f d5 = v5) (h6 : f d6 = v6) (h7 : f d7 = v7) (h8 : f d8 = v8) (h9 : f d9 = v9) (h10 : f d10 = v10) (h11 : f d11 = v11) (h12 : f d12 = v12) (h13 : f d13 = v13) (h14 : f d14 = v14) (h15 : f d15 = v15) (H : ∀ g, W P n c Q (upd (upd (upd (upd (upd (upd (upd (upd (upd (upd (upd (upd (upd (upd (upd (upd g d0 v0) d1 v1) d2 v2) d3 v3) d4 v4) d5 v5) d6 v6) d7 v7) d8 v8) d9 v9) d10 v10) d11 v11) d12 v12) d13 v13) d14 v14) d15 v15) w) : W P n c Q f w := by
  have := H f
  subst h0 h1 h2 h3 h4 h5 h6 h7 h8 h9 h10 h11 h12 h13 h14 h15
  simpa only [upd_self] using this
theorem shrink17 (d0 d1 d2 d3 d4 d5 d6 d7 d8 d9 d10 d11 d12 d13 d14 d15 d16 : Nat) {c : Code} {v0 v1 v2 v3 v4 v5 v6 v7 v8 v9 v10 v11 v12 v13 v14 v15 v16 : Value} (h0 : f d0 = v0) (h1 : f d1 = v1) (h2 : f d2 = v2) (h3 : f d3 = v3) (h4 : f d4 = v4) (h5 : f d5 = v5) (h6 : f d6 = v6) (h7 : f d7 = v7) (h8 : f d8 = v8) (h9 : f d9 = v9) (h10 : f d10 = v10) (h11 : f d11 = v11) (h12 : f d12 = v12) (h13 : f d13 = v13) (h14 : f d14 = v14) (h15 : f d15 = v15) (h16 : f d16 = v16) (H : ∀ g, W P n c Q (upd (upd (upd (upd (upd (upd (upd (upd (upd (upd (upd (upd (upd (upd (upd (upd (upd g d0 v0) d1 v1) d2 v2) d3 v3) d4 v4) d5 v5) d6 v6) d7 v7) d8 v8) d9 v9) d10 v10) d11 v11) d12 v12) d13 v13) d14 v14) d15 v15) d16 v16) w) : W P n c Q f w := by
  have := H f
  subst h0 h1 h2 h3 h4 h5 h6 h7 h8 h9 h10 h11 h12 h13 h14 h15 h16
  simpa only [upd_self] using this
theorem shrink18 (d0 d1 d2 d3 d4 d5 d6 d7 d8 d9 d10 d11 d12 d13 d14 d15 d16 d17 : Nat) {c : Code} {v0 v1 v2 v3 v4 v5 v6 v7 v8 v9 v10 v11 v12 v13 v14 v15 v16 v17 : Value} (h0 : f d0 = v0) (h1 : f d1 = v1) (h2 : f d2 = v2) (h3 : f d3 = v3) (h4 : f d4 = v4) (h5 : f d5 = v5) (h6 : f d6 = v6) (h7 : f d7 = v7) (h8 : f d8 = v8) (h9 : f d9 = v9) (h10 : f d10 = v10) (h11 : f d11 = v11) (h12 : f d12 = v12) (h13 : f d13 = v13) (h14 : f d14 = v14) (h15 : f d15 = v15) (h16 : f d16 = v16) (h17 : f d17 = v17) (H : ∀ g, W P n c Q (upd (upd (upd (upd (upd (upd (upd (upd (upd (upd (upd (upd (upd (upd (upd (upd (upd (upd g d0 v0) d1 v1) d2 v2) d3 v3) d4 v4) d5 v5) d6 v6) d7 v7) d8 v8) d9 v9) d10 v10) d11 v11) d12 v12) d13 v13) d14 v14) d15 v15) d16 v16) d17 v17) w) : W P n c Q f w := by
  have := H f
  subst h0 h1 h2 h3 h4 h5 h6 h7 h8 h9 h10 h11 h12 h13 h14 h15 h16 h17
  simpa only [upd_self] using this
theorem shrink19 (d0 d1 d2 d3 d4 d5 d6 d7 d8 d9 d10 d11 d12 d13 d14 d15 d16 d17 d18 : Nat) {c : Code} {v0 v1 v2 v3 v4 v5 v6 v7 v8 v9 v10 v11 v12 v13 v14 v15 v16 v17 v18 : Value} (h0 : f d0 = v0) (h1 : f d1 = v1) (h2 : f d2 = v2) (h3 : f d3 = v3) (h4 : f d4 = v4) (h5 : f d5 = v5) (h6 : f d6 = v6) (h7 : f d7 = v7) (h8 : f d8 = v8) (h9 : f d9 = v9) (h10 : f d10 = v10) (h11 : f d11 = v11) (h12 : f d12 = v12) (h13 : f d13 = v13) (h14 : f d14 = v14) (h15 : f d15 = v15) (h16 : f d16 = v16) (h17 : f d17 = v17) (h18 : f d18 = v18) (H : ∀ g, W P n c Q (upd (upd (upd (upd (upd (upd (upd (upd (upd (upd (upd (upd (upd (upd (upd (upd (upd (upd (upd g d0 v0) d1 v1) d2 v2) d3 v3) d4 v4) d5 v5) d6 v6) d7 v7) d8 v8) d9 v9) d10 v10) d11 v11) d12 v12) d13 v13) d14 v14) d15 v15) d16 v16) d17 v17) d18 v18) w) : W P n c Q f w := by
  have := H f
  subst h0 h1 h2 h3 h4 h5 h6 h7 h8 h9 h10 h11 h12 h13 h14 h15 h16 h17 h18
  simpa only [upd_self] using this
theorem shrink20 (d0 d1 d2 d3 d4 d5 d6 d7 d8 d9 d10 d11 d12 d13 d14 d15 d16 d17 d18 d19 : Nat) {c : Code} {v0 v1 v2 v3 v4 v5 v6 v7 v8 v9 v10 v11 v12 v13 v14 v15 v16 v17 v18 v19 : Value} (h0 : f d0 = v0) (h1 : f d1 = v1) (h2 : f d2 = v2) (h3 : f d3 = v3) (h4 : f d4 = v4) (h5 : f d5 = v5) (h6 : f d6 = v6) (h7 : f d7 = v7) (h8 : f d8 = v8) (h9 : f d9 = v9) (h10 : f d10 = v10) (h11 : f d11 = v11) (h12 : f d12 = v12) (h13 : f d13 = v13) (h14 : f d14 = v14) (h15 : f d15 = v15) (h16 : f d16 = v16) (h17 : f d17 = v17) (h18 : f d18 = v18) (h19 : f d19 = v19) (H : ∀ g, W P n c Q (upd (upd (upd (upd (upd (upd (upd (upd (upd (upd (upd (upd (upd (upd (upd (upd (upd (upd (upd (upd g d0 v0) d1 v1) d2 v2) d3 v3) d4 v4) d5 v5) d6 v6) d7 v7) d8 v8) d9 v9) d10 v10) d11 v11) d12 v12) d13 v13) d14 v14) d15 v15) d16 v16) d17 v17) d18 v18) d19 v19) w) : W P n c Q f w := by
  have := H f
  subst h0 h1 h2 h3 h4 h5 h6 h7 h8 h9 h10 h11 h12 h13 h14 h15 h16 h17 h18 h19
  simpa only [upd_self] using this
theorem shrink21 (d0 d1 d2 d3 d4 d5 d6 d7 d8 d9 d10 d11 d12 d13 d14 d15 d16 d17 d18 d19 d20 : Nat) {c : Code} {v0 v1 v2 v3 v4 v5 v6 v7 v8 v9 v10 v11 v12 v13 v14 v15 v16 v17 v18 v19 v20 : Value} (h0 : f d0 = v0) (h1 : f d1 = v1) (h2 : f d2 = v2) (h3 : f d3 = v3) (h4 : f d4 = v4) (h5 : f d5 = v5) (h6 : f d6 = v6) (h7 : f d7 = v7) (h8 : f d8 = v8) (h9 : f d9 = v9) (h10 : f d10 = v10) (h11 : f d11 = v11) (h12 : f d12 = v12) (h13 : f d13 = v13) (h14 : f d14 = v14) (h15 : f d15 = v15) (h16 : f d16 = v16) (h17 : f d17 = v17) (h18 : f d18 = v18) (h19 : f d19 = v19) (h20 : f d20 = v20) (H : ∀ g, W P n c Q (upd (upd (upd (upd (upd (upd (upd (upd (upd (upd (upd (upd (upd (upd (upd (upd (upd (upd (upd (upd (upd g d0 v0) d1 v1) d2 v2) d3 v3) d4 v4) d5 v5) d6 v6) d7 v7) d8 v8) d9 v9) d10 v10) d11 v11) d12 v12) d13 v13) d14 v14) d15 v15) d16 v16) d17 v17) d18 v18) d19 v19) d20 v20) w) : W P n c Q f w := by
  have := H f
  subst h0 h1 h2 h3 h4 h5 h6 h7 h8 h9 h10 h11 h12 h13 h14 h15 h16 h17 h18 h19 h20
  simpa only [upd_self] using this
theorem shrink22 (d0 d1 d2 d3 d4 d5 d6 d7 d8 d9 d10 d11 d12 d13 d14 d15 d16 d17 d18 d19 d20 d21 : Nat) {c : Code} {v0 v1 v2 v3 v4 v5 v6 v7 v8 v9 v10 v11 v12 v13 v14 v15 v16 v17 v18 v19 v20 v21 : Value} (h0 : f d0 = v0) (h1 : f d1 = v1) (h2 : f d2 = v2) (h3 : f d3 = v3) (h4 : f d4 = v4) (h5 : f d5 = v5) (h6 : f d6 = v6) (h7 : f d7 = v7) (h8 : f d8 = v8) (h9 : f d9 = v9) (h10 : f d10 = v10) (h11 : f d11 = v11) (h12 : f d12 = v12) (h13 : f d13 = v13) (h14 : f d14 = v14) (h15 : f d15 = v15) (h16 : f d16 = v16) (h17 : f d17 = v17) (h18 : f d18 = v18) (h19 : f d19 = v19) (h20 : f d20 = v20) (h21 : f d21 = v21) (H : ∀ g, W P n c Q (upd (upd (upd (upd (upd (upd (upd (upd (upd (upd (upd (upd (upd (upd (upd (upd (upd (upd (upd (upd (upd (upd g d0 v0) d1 v1) d2 v2) d3 v3) d4 v4) d5 v5) d6 v6) d7 v7) d8 v8) d9 v9) d10 v10) d11 v11) d12 v12) d13 v13) d14 v14) d15 v15) d16 v16) d17 v17) d18 v18) d19 v19) d20 v20) d21 v21) w) : W P n c Q f w := by
  have := H f
  subst h0 h1 h2 h3 h4 h5 h6 h7 h8 h9 h10 h11 h12 h13 h14 h15 h16 h17 h18 h19 h20 h21
  simpa only [upd_self] using this
theorem shrink23 (d0 d1 d2 d3 d4 d5 d6 d7 d8 d9 d10 d11 d12 d13 d14 d15 d16 d17 d18 d19 d20 d21 d22 : Nat) {c : Code} {v0 v1 v2 v3 v4 v5 v6 v7 v8 v9 v10 v11 v12 v13 v14 v15 v16 v17 v18 v19 v20 v21 v22 : Value} (h0 : f d0 = v0) (h1 : f d1 = v1) (h2 : f d2 = v2) (h3 : f d3 = v3) (h4 : f d4 = v4) (h5 : f d5 = v5) (h6 : f d6 = v6) (h7 : f d7 = v7) (h8 : f d8 = v8) (h9 : f d9 = v9) (h10 : f d10 = v10) (h11 : f d11 = v11) (h12 : f d12 = v12) (h13 : f d13 = v13) (h14 : f d14 = v14) (h15 : f d15 = v15) (h16 : f d16 = v16) (h17 : f d17 = v17) (h18 : f d18 = v18) (h19 : f d19 = v19) (h20 : f d20 = v20) (h21 : f d21 = v21) (h22 : f d22 = v22) (H : ∀ g, W P n c Q (upd (upd (upd (upd (upd (upd (upd (upd (upd (upd (upd (upd (upd (upd (upd (upd (upd (upd (upd (upd (upd (upd (upd g d0 v0) d1 v1) d2 v2) d3 v3) d4 v4) d5 v5) d6 v6) d7 v7) d8 v8) d9 v9) d10 v10) d11 v11) d12 v12) d13 v13) d14 v14) d15 v15) d16 v16) d17 v17) d18 v18) d19 v19) d20 v20) d21 v21) d22 v22) w) : W P n c Q f w := by
  have := H f
  subst h0 h1 h2 h3 h4 h5 h6 h7 h8 h9 h10 h11 h12 h13 h14 h15 h16 h17 h18 h19 h20 h21 h22
  simpa only [upd_self] using this
theorem shrink24 (d0 d1 d2 d3 d4 d5 d6 d7 d8 d9 d10 d11 d12 d13 d14 d15 d16 d17 d18 d19 d20 d21 d22 d23 : Nat) {c : Code} {v0 v1 v2 v3 v4 v5 v6 v7 v8 v9 v10 v11 v12 v13 v14 v15 v16 v17 v18 v19 v20 v21 v22 v23 : Value} (h0 : f d0 = v0) (h1 : f d1 = v1) (h2 : f d2 = v2) (h3 : f d3 = v3) (h4 : f d4 = v4) (h5 : f d5 = v5) (h6 : f d6 = v6) (h7 : f d7 = v7) (h8 : f d8 = v8) (h9 : f d9 = v9) (h10 : f d10 = v10) (h11 : f d11 = v11) (h12 : f d12 = v12) (h13 : f d13 = v13) (h14 : f d14 = v14) (h15 : f d15 = v15) (h16 : f d16 = v16) (h17 : f d17 = v17) (h18 : f d18 = v18) (h19 : f d19 = v19) (h20 : f d20 = v20) (h21 : f d21 = v21) (h22 : f d22 = v22) (h23 : f d23 = v23) (H : ∀ g, W P n c Q (upd (upd (upd (upd (upd (upd (upd (upd (upd (upd (upd (upd (upd (upd (upd (upd (upd (upd (upd (upd (upd (upd (upd (upd g d0 v0) d1 v1) d2 v2) d3 v3) d4 v4) d5 v5) d6 v6) d7 v7) d8 v8) d9 v9) d10 v10) d11 v11) d12 v12) d13 v13) d14 v14) d15 v15) d16 v16) d17 v17) d18 v18) d19 v19) d20 v20) d21 v21) d22 v22) d23 v23) w) : W P n c Q f w := by
  have := H f
  subst h0 h1 h2 h3 h4 h5 h6 h7 h8 h9 h10 h11 h12 h13 h14 h15 h16 h17 h18 h19 h20 h21 h22 h23
  simpa only [upd_self] using this

/-! bits of unsigned numbers -/
theorem bits_u32_and (a b : Nat) (ha : a < 4294967296) (hb : b < 4294967296) : bits .and .u32 (a : Int) (b : Int) = ((a &&& b : Nat) : Int) := by
  have hx : a &&& b < 2 ^ 32 := Nat.and_lt_two_pow _ (by omega)
  show IntKind.u32.wrap ((BitVec.ofInt 32 (a : Int) &&& BitVec.ofInt 32 (b : Int)).toNat : Int) = _
  rw [BitVec.toNat_and, BitVec.ofInt_natCast, BitVec.ofInt_natCast, BitVec.toNat_ofNat, BitVec.toNat_ofNat, Nat.mod_eq_of_lt ha, Nat.mod_eq_of_lt hb, IntKind.wrap_u32]
  omega
theorem bits_u32_or (a b : Nat) (ha : a < 4294967296) (hb : b < 4294967296) : bits .or .u32 (a : Int) (b : Int) = ((a ||| b : Nat) : Int) := by
  have hx : a ||| b < 2 ^ 32 := Nat.or_lt_two_pow (by omega) (by omega)
  show IntKind.u32.wrap ((BitVec.ofInt 32 (a : Int) ||| BitVec.ofInt 32 (b : Int)).toNat : Int) = _
  rw [BitVec.toNat_or, BitVec.ofInt_natCast, BitVec.ofInt_natCast, BitVec.toNat_ofNat, BitVec.toNat_ofNat, Nat.mod_eq_of_lt ha, Nat.mod_eq_of_lt hb, IntKind.wrap_u32]
  omega
theorem bits_u32_xor (a b : Nat) (ha : a < 4294967296) (hb : b < 4294967296) : bits .xor .u32 (a : Int) (b : Int) = ((a ^^^ b : Nat) : Int) := by
  have hx : a ^^^ b < 2 ^ 32 := Nat.xor_lt_two_pow (by omega) (by omega)
  show IntKind.u32.wrap ((BitVec.ofInt 32 (a : Int) ^^^ BitVec.ofInt 32 (b : Int)).toNat : Int) = _
  rw [BitVec.toNat_xor, BitVec.ofInt_natCast, BitVec.ofInt_natCast, BitVec.toNat_ofNat, BitVec.toNat_ofNat, Nat.mod_eq_of_lt ha, Nat.mod_eq_of_lt hb, IntKind.wrap_u32]
  omega
theorem bits_u64_and (a b : Nat) (ha : a < 18446744073709551616) (hb : b < 18446744073709551616) : bits .and .u64 (a : Int) (b : Int) = ((a &&& b : Nat) : Int) := by
  have hx : a &&& b < 2 ^ 64 := Nat.and_lt_two_pow _ (by omega)
  show IntKind.u64.wrap ((BitVec.ofInt 64 (a : Int) &&& BitVec.ofInt 64 (b : Int)).toNat : Int) = _
  rw [BitVec.toNat_and, BitVec.ofInt_natCast, BitVec.ofInt_natCast, BitVec.toNat_ofNat, BitVec.toNat_ofNat, Nat.mod_eq_of_lt ha, Nat.mod_eq_of_lt hb, IntKind.wrap_u64]
  omega
theorem bits_u64_or (a b : Nat) (ha : a < 18446744073709551616) (hb : b < 18446744073709551616) : bits .or .u64 (a : Int) (b : Int) = ((a ||| b : Nat) : Int) := by
  have hx : a ||| b < 2 ^ 64 := Nat.or_lt_two_pow (by omega) (by omega)
  show IntKind.u64.wrap ((BitVec.ofInt 64 (a : Int) ||| BitVec.ofInt 64 (b : Int)).toNat : Int) = _
  rw [BitVec.toNat_or, BitVec.ofInt_natCast, BitVec.ofInt_natCast, BitVec.toNat_ofNat, BitVec.toNat_ofNat, Nat.mod_eq_of_lt ha, Nat.mod_eq_of_lt hb, IntKind.wrap_u64]
  omega
theorem bits_u64_xor (a b : Nat) (ha : a < 18446744073709551616) (hb : b < 18446744073709551616) : bits .xor .u64 (a : Int) (b : Int) = ((a ^^^ b : Nat) : Int) := by
  have hx : a ^^^ b < 2 ^ 64 := Nat.xor_lt_two_pow (by omega) (by omega)
  show IntKind.u64.wrap ((BitVec.ofInt 64 (a : Int) ^^^ BitVec.ofInt 64 (b : Int)).toNat : Int) = _
  rw [BitVec.toNat_xor, BitVec.ofInt_natCast, BitVec.ofInt_natCast, BitVec.toNat_ofNat, BitVec.toNat_ofNat, Nat.mod_eq_of_lt ha, Nat.mod_eq_of_lt hb, IntKind.wrap_u64]
  omega
theorem u32_nat (x : Nat) : IntKind.u32.wrap (x : Int) = ((x % 4294967296 : Nat) : Int) := by rw [IntKind.wrap_u32]; omega
theorem fdiv_nat (x k : Nat) : (x : Int).fdiv (2 ^ k) = ((x / 2 ^ k : Nat) : Int) := by
  rw [Int.fdiv_eq_ediv_of_nonneg _ (by exact Int.le_of_lt (Int.pow_pos (by omega)))]
  simp
theorem tmod_nat (a b : Nat) : (a : Int).tmod (b : Int) = ((a % b : Nat) : Int) := by
  rw [Int.tmod_eq_emod_of_nonneg (by omega)]; rfl
theorem tdiv_nat (a b : Nat) : (a : Int).tdiv (b : Int) = ((a / b : Nat) : Int) := by
  rw [Int.tdiv_eq_ediv_of_nonneg (by omega)]; rfl
section slices
variable {d : Option Tmp} {t : TypeId} {pos : String} {af : Array Edge} {g : Option (Nat × Bool)} {x : Operand}
/-- a part of a row between two given places -/
theorem X_sliceAB {ty : TypeId} {e : TypeId} {size m c : Nat} [TSlice P ty e] [TSz P e size] {A : Option Addr} {a b : Operand} {ka kb : IntKind} {ia jb : Int} (i j : Nat)
    (hx : ev n f x = .slice A m c) (ha : ev n f a = .int ka ia) (hb : ev n f b = .int kb jb) (hi : ia = (i : Int)) (hj : jb = (j : Int)) (hij : i ≤ j) (hjc : j ≤ c) :
    X P n ⟨d, .slice ty x (some a) (some b) none, t, pos, af, g⟩ f w = .ok (.value (.slice (if c = i then A else A.map (·.add (i * size))) (j - i) (c - i))) w := by
  subst hi; subst hj
  exact X_slice hx ⟨_, ha⟩ ⟨_, hb⟩ hij hjc
theorem X_sliceB {ty : TypeId} {e : TypeId} {size m c : Nat} [TSlice P ty e] [TSz P e size] {A : Option Addr} {b : Operand} {kb : IntKind} {jb : Int} (j : Nat)
    (hx : ev n f x = .slice A m c) (hb : ev n f b = .int kb jb) (hj : jb = (j : Int)) (hjc : j ≤ c) :
    X P n ⟨d, .slice ty x none (some b) none, t, pos, af, g⟩ f w = .ok (.value (.slice (if c = 0 then A else A.map (·.add (0 * size))) (j - 0) (c - 0))) w := by
  subst hj
  exact X_slice hx rfl ⟨_, hb⟩ (Nat.zero_le _) hjc
theorem X_sliceA {ty : TypeId} {e : TypeId} {size m c : Nat} [TSlice P ty e] [TSz P e size] {A : Option Addr} {a : Operand} {ka : IntKind} {ia : Int} (i : Nat)
    (hx : ev n f x = .slice A m c) (ha : ev n f a = .int ka ia) (hi : ia = (i : Int)) (him : i ≤ m) (hmc : m ≤ c) :
    X P n ⟨d, .slice ty x (some a) none none, t, pos, af, g⟩ f w = .ok (.value (.slice (if c = i then A else A.map (·.add (i * size))) (m - i) (c - i))) w := by
  subst hi
  exact X_slice hx ⟨_, ha⟩ rfl him hmc
theorem Row.re {w : World} {lo hi size m m' : Nat} {v : Value} {xs ys : List Value} (h : Row w lo hi size v m xs) (hm : m = m') (hx : xs = ys) : Row w lo hi size v m' ys := by subst hm; subst hx; exact h
/-- the part of a row of numbers -/
theorem Row.cut {w : World} {lo hi m c : Nat} {A : Option Addr} {k : IntKind} {l : List Nat} {i j q : Nat} (h : Row w lo hi 1 (.slice A m c) m (ints k l)) (hij : i ≤ j) (hj : j ≤ m) (hq : j - i = q) :
    Row w lo hi 1 (.slice (if c = i then A else A.map (·.add (i * 1))) (j - i) (c - i)) q (ints k ((l.drop i).take q)) := by
  subst hq
  exact (h.slice rfl hij hj).re rfl (by simp only [Nat.mul_one, ints_drop, ints_take])
end slices

end Go.Proofs.K

/- Strings and bytes, equality of arrays and structs, and described results inside a region that draws. -/
namespace Go.Proofs.K
open Go.RowKit
variable {P : Program} {n : NN} {Q : Exit → Fr → World → Prop} {f : Fr} {w : World} {ops : Array Oper} {rest : List Oper}

/-! strings as lists of byte values -/
def strB (l : List Nat) : ByteArray := ⟨(l.map UInt8.ofNat).toArray⟩
def sb (s : ByteArray) : List Nat := s.data.toList.map UInt8.toNat
theorem sb_len (s : ByteArray) : (sb s).length = s.size := by simp only [sb, List.length_map, Array.length_toList]; rfl
theorem sb_lt (s : ByteArray) : ∀ x ∈ sb s, x < 256 := by
  intro x hx
  obtain ⟨b, _, rfl⟩ := List.mem_map.1 hx
  exact b.toNat_lt
theorem strB_size (l : List Nat) : (strB l).size = l.length := by
  show (l.map UInt8.ofNat).toArray.size = _
  simp only [List.size_toArray, List.length_map]
theorem strB_sb (s : ByteArray) : strB (sb s) = s := by
  cases s with
  | mk d =>
    simp only [strB, sb, List.map_map]
    congr 1
    have : (UInt8.ofNat ∘ UInt8.toNat) = id := by funext b; simp
    rw [this]; simp
theorem sb_strB {l : List Nat} (h : ∀ x ∈ l, x < 256) : sb (strB l) = l := by
  simp only [sb, strB, List.map_map]
  conv => rhs; rw [← List.map_id l]
  exact List.map_congr_left fun x hx => by simp [Nat.mod_eq_of_lt (h x hx)]
theorem sb_inj {s u : ByteArray} (h : sb s = sb u) : s = u := by rw [← strB_sb s, h, strB_sb]
theorem sb_append (s u : ByteArray) : sb (s ++ u) = sb s ++ sb u := by simp only [sb, ByteArray.data_append, Array.toList_append, List.map_append]
theorem strB_append (l m : List Nat) : strB (l ++ m) = strB l ++ strB m := by
  apply ByteArray.ext; simp [strB, ByteArray.data_append]
theorem sb_get (s : ByteArray) {i : Nat} (h : i < s.size) : (s[i].toNat : Nat) = (sb s).getD i 0 := by
  have h' : i < s.data.size := h
  simp only [sb, List.getD, List.getElem?_map, Array.getElem?_toList, Array.getElem?_eq_getElem h', Option.map_some, Option.getD_some]
  rfl

section
variable {d : Option Tmp} {t src dst e : TypeId} {pos : String} {af : Array Edge} {g : Option (Nat × Bool)} {x y : Operand}
theorem X_toStr [hs : TSlice P src e] [he : TInt P e .u8] [hd : TStr P dst] {lo hi : Nat} {v : Value} {l : List Nat} (hx : ev n f x = v) (hr : Row w lo hi 1 v l.length (ints .u8 l)) :
    X P n ⟨d, .convert src dst x, t, pos, af, g⟩ f w = .ok (.value (.string (strB l))) w := by
  subst hx
  obtain ⟨_, A, c, hv, _, _, hc⟩ := hr
  have e1 : strB l = strOfNums (l.map Int.ofNat) := by simp [strB, strOfNums, Function.comp_def]
  rcases Nat.eq_zero_or_pos l.length with h0 | h0
  · have : l = [] := List.eq_nil_of_length_eq_zero h0
    subst this
    cases A with
    | none =>
      have := run_convert_bytes_nil (P := P) w src e hs.h he.h 0 c dst hd.h
      simp [X, execOp, hv, this]; rfl
    | some a =>
      have := run_convert_bytes_string (P := P) w src dst e (some a) 0 c hs.h he.h hd.h
      rw [run_bytesToString w a 0 c [] (by simp [loadCells, loadCellsFrom])] at this
      simp [X, execOp, hv, this]; rfl
  · obtain ⟨b, o, rfl, _, _, hrow⟩ := hc h0
    have := run_convert_bytes_arg (P := P) w src e hs.h he.h b o l.length c (l.map Int.ofNat) (by simp) (fun i hi => by
      have := hrow i (.int .u8 (l.getD i 0 : Nat)) (by simp [ints, List.getD, hi])
      rw [this]; simp [List.getD, hi]) dst hd.h
    simp [X, execOp, hv, this, e1]
theorem X_toBytes [hs : TStr P src] [hd : TSlice P dst e] [he : TInt P e .u8] {s : ByteArray} (hx : ev n f x = .string s) (hl : s.size ≤ maxLen) :
    ∃ v w', X P n ⟨d, .convert src dst x, t, pos, af, g⟩ f w = .ok (.value v) w' ∧ Ext w w' ∧ Row w' w.heap.size w'.heap.size 1 v s.size (ints .u8 (sb s)) := by
  refine ⟨.slice (some ⟨w.heap.size, 0, none⟩) s.size (grownCap w s.size 0 e), Lib.bytesWorld w e s, ?_, ?_, ?_⟩
  · have := Lib.run_convert_string_bytes (P := P) w src dst e s hs.h hd.h he.h
    simp [X, execOp, hx, this]
  · refine ⟨rfl, rfl, rfl, by rw [Lib.bytesWorld_size]; omega, fun k hk _ => Lib.bytesWorld_at_old w e s k hk⟩
  · refine ⟨by rw [ints_len, sb_len, Nat.mul_one], _, _, rfl, grownCap_ge w _ _ _, grownCap_le_maxLen w _ _ _ hl, fun h0 => ⟨_, _, rfl, Nat.le_refl _, by rw [Lib.bytesWorld_size]; omega, fun j u hu => ?_⟩⟩
    have hj : j < s.size := by
      have := (List.getElem?_eq_some_iff.1 hu).1
      simpa [ints_len, sb_len] using this
    have hc := Lib.bytesWorld_cell w e s j hj
    rw [Nat.zero_add, hc]
    have hj2 : j < s.data.size := hj
    have e3 : s.data[j]? = some s.data[j] := Array.getElem?_eq_getElem hj2
    simp only [ints, sb, List.getElem?_map, Array.getElem?_toList, e3, Option.map_some, Option.some.injEq] at hu
    rw [← hu]
    simp only [List.getD, Array.getElem?_toList, e3, Option.getD_some]
/-- []byte of []byte: the mark of a conversion -/
theorem X_markB [hd : TSlice P dst e] [he : TInt P e .u8] {a : Addr} {m c : Nat} (hx : ev n f x = .slice (some a) m c) :
    ∃ w', X P n ⟨d, .convert dst dst x, t, pos, af, g⟩ f w = .ok (.value (.slice (some a) m c)) w' ∧ w.grownBy w' (some a.block) ∧ (∀ q, w'.cell? q = w.cell? q) ∧ w'.heap.size = w.heap.size := by
  cases hsh : w.shape? a.block with
  | none =>
    refine ⟨w, ?_, ⟨rfl, rfl, rfl, Nat.le_refl _, fun _ _ _ => rfl⟩, fun _ => rfl, rfl⟩
    simp [X, execOp, hx, convert, run_underlying hd.h, run_underlying he.h, markStringish, hsh]
  | some p =>
    obtain ⟨_, k⟩ := p
    refine ⟨w.freeze ⟨a.block, k, none⟩ 1, ?_, ⟨rfl, rfl, rfl, by simp [World.freeze], fun j hj hne => ?_⟩, fun q => ?_, by simp [World.freeze]⟩
    · simp [X, execOp, hx, convert, run_underlying hd.h, run_underlying he.h, markStringish, hsh, Result.andThen]
    · have : a.block ≠ j := fun e => hne (by rw [e])
      simp [World.freeze, Array.getElem?_modify, this]
    · unfold World.cell? World.freeze
      simp only [Nat.one_ne_zero, if_false, Array.getElem?_modify]
      by_cases hq : a.block = q.block
      · simp only [hq, if_true]
        cases w.heap[q.block]? with
        | none => rfl
        | some o => cases o <;> rfl
      · simp only [hq, if_false]
end

theorem X_of_run {d : Option Tmp} {t : TypeId} {pos : String} {af : Array Edge} {g : Option (Nat × Bool)} {x y : Operand} {ty ty2 : TypeId} {a b v : Value} {w' : World} (hx : ev n f x = a) (hy : ev n f y = b) (h : (Builtin.append_ #[ty, ty2] t #[a, b]).run P w = .ok v w') :
    X P n ⟨d, .call ⟨.builtin .append, #[x, y], #[ty, ty2]⟩, t, pos, af, g⟩ f w = .ok (.value v) w' := by
  subst hx; subst hy
  simp [X, execOp, resolve, invoke, builtin, h]
theorem strCells_ints (s : ByteArray) : Lib.strCells s = ints .u8 (sb s) := by
  simp [Lib.strCells, ints, sb]
section
variable {d : Tmp} {t ty ty2 src dst e : TypeId} {pos : String} {af : Array Edge} {x y : Operand}
theorem L_toBytes [hs : TStr P src] [hd : TSlice P dst e] [he : TInt P e .u8] {s : ByteArray} (hx : ev n f x = .string s) (hl : s.size ≤ maxLen)
    (h : ∀ v w', Ext w w' → Row w' w.heap.size w'.heap.size 1 v s.size (ints .u8 (sb s)) → L P n ops Q rest (upd f d v) w') :
    L P n ops Q (⟨some d, .convert src dst x, t, pos, af, none⟩ :: rest) f w := by
  obtain ⟨v, w', hX, h1, h2⟩ := X_toBytes (P := P) (d := some d) (t := t) (dst := dst) (src := src) (pos := pos) (af := af) (g := none) hx hl
  exact Ls hX (h v w' h1 h2)
/-- []byte of a row of bytes: its block gets a mark, no cell turns -/
theorem L_markB [hd : TSlice P dst e] [he : TInt P e .u8] {lo hi m : Nat} {v : Value} {xs : List Value} (hx : ev n f x = v) (hr : Row w lo hi 1 v m xs) (hm : 0 < m)
    (h : ∀ w' b, lo ≤ b → b < hi → w.grownBy w' (some b) → Row w' lo hi 1 v m xs → w'.heap.size = w.heap.size → L P n ops Q rest (upd f d v) w') :
    L P n ops Q (⟨some d, .convert dst dst x, t, pos, af, none⟩ :: rest) f w := by
  obtain ⟨hl, A, c, rfl, hc, hcm, hn⟩ := hr
  obtain ⟨b, o, rfl, h1, h2, h3⟩ := hn hm
  obtain ⟨w', hX, h4, h5, h6⟩ := X_markB (P := P) (d := some d) (t := t) (dst := dst) (pos := pos) (af := af) (g := none) (w := w) hx
  exact Ls hX (h w' b h1 h2 h4 ⟨hl, _, _, rfl, hc, hcm, fun _ => ⟨b, o, rfl, h1, h2, fun j u hu => by rw [h5]; exact h3 j u hu⟩⟩ h6)
/-- append that has no room: whose row it was does not matter -/
theorem L_appendNew {lo hi lo2 hi2 m c k bytes : Nat} {A : Option Addr} {u : Value} {xs ys : List Value} [ht : TSlice P ty e] [hz : TElem P e 1 bytes]
    (hx : ev n f x = .slice A m c) (hr : Row w lo hi 1 (.slice A m c) m xs) (hm0 : 0 < m) (hy : ev n f y = u) (hr2 : Row w lo2 hi2 1 u k ys) (hk0 : 0 < k) (hc : c < m + k) (hb : (m + k) * bytes ≤ 140737488355328) (hm : m + k ≤ 9223372036854775807)
    (h : ∀ v' w', w'.ownsRow w.heap.size e 1 v' (m + k) (xs ++ ys) → Ext w w' → L P n ops Q rest (upd f d v') w') :
    L P n ops Q (⟨some d, .call ⟨.builtin .append, #[x, y], #[ty, ty]⟩, t, pos, af, none⟩ :: rest) f w := by
  obtain ⟨z, h0, hzs, hsz⟩ := hz.h
  obtain ⟨i, hi', hz0, h2, h3⟩ := info_parts h0
  obtain ⟨hl, A', c', he, _, _, hn⟩ := hr
  injection he with e1 _ e2
  subst e1; subst e2
  obtain ⟨b, o, rfl, _, _, hcell⟩ := hn hm0
  obtain ⟨hl2, A2, c2, rfl, _, _, hn2⟩ := hr2
  obtain ⟨b2, o2, rfl, _, _, hcell2⟩ := hn2 hk0
  have hrun := run_append_grow (P := P) w ty t e i z ht.h hi' hz0 ⟨b, o, none⟩ m c xs (by rw [h2]; exact hl) (fun j u hu => by rw [Addr.add_mid]; exact hcell j u hu) ⟨b2, o2, none⟩ k c2 ys (by rw [h2]; exact hl2) (fun j u hu => by rw [Addr.add_mid]; exact hcell2 j u hu) hc (by omega) (growslice_fits (by omega) (by rw [h3]; exact hb))
  have hlen : (xs ++ ys).length = (m + k) * 1 := by rw [List.length_append, hl, hl2]; omega
  have hge := grownCap_ge w (m + k) c e
  refine Ls (X_of_run hx hy hrun) (h _ _ ⟨hlen, .inr ⟨w.heap.size, _, _, rfl, Nat.le_refl _, heap_alloc_new w.drew _, hge, grownCap_le_maxLen w (m + k) c e (by unfold maxLen; omega), ?_, ?_⟩⟩ ⟨rfl, rfl, rfl, by simp, fun j hj _ => heap_alloc_old w.drew _ hj⟩)
  · simp only [Array.size_append, List.size_toArray, size_zeroCells, hzs, hl, hl2]
    omega
  · simp only [Array.toList_append]
    rw [← hlen]
    exact List.take_left
theorem L_appendS {m base : Nat} {v : Value} {xs : List Value} [ht : TSlice P ty e] [hu : TStr P ty2] [hz : TInfo P e 1 1 (.int .u8 0)] {s : ByteArray}
    (hx : ev n f x = v) (hy : ev n f y = .string s) (hown : w.ownsRow base e 1 v m xs) (hb : m + s.size ≤ 140737488355328) (hbase : base ≤ w.heap.size)
    (h : ∀ v' w', w'.ownsRow base e 1 v' (m + s.size) (xs ++ ints .u8 (sb s)) → w.grownBy w' v.ownBlock → L P n ops Q rest (upd f d v') w') :
    L P n ops Q (⟨some d, .call ⟨.builtin .append, #[x, y], #[ty, ty2]⟩, t, pos, af, none⟩ :: rest) f w := by
  obtain ⟨i, hi', h0, h2, h3⟩ := info_parts hz.h
  obtain ⟨v', w', hrun, h4, h5, _⟩ := Lib.run_append_own_string (P := P) w base ty ty2 t e i ht.h hu.h hi' h0 h2 h3 v m xs hown s (by unfold maxLen; omega) hb hbase
  rw [strCells_ints] at h4
  exact Ls (X_of_run hx hy hrun) (h v' w' h4 h5)
theorem L_lits {z : List Value} {len : Nat} {zs' : List (List Value)} {cs : List Value} [hs : TSlice P ty e] [hz : TZero P e z] {r : List (Nat × Operand)}
    (hp : Parts n f (List.replicate len z) r zs') (hlen : Nat.ble (len * z.length) 65536 = true) (hcs : zs'.flatten = cs) (hl : cs.length = len * z.length) (hk0 : Nat.ble len 65536 = true)
    (h : ∀ q w', Row w' w.heap.size w'.heap.size z.length q len cs → Ext w w' → w'.heap.size = w.heap.size + 1 → w'.ownsRow w.heap.size e z.length q len cs → q = .slice (some ⟨w.heap.size, 0, none⟩) len len → L P n ops Q rest (upd f d q) w') :
    L P n ops Q (⟨some d, .buildSlice ty len r.toArray, t, pos, af, none⟩ :: rest) f w := by
  have hk : len ≤ maxLen := Nat.le_trans (Nat.le_of_ble_eq_true hk0) (by unfold maxLen; omega)
  refine Ls (X_lits hp hlen hcs) (h _ _ ?_ (grown_alloc _ _) (by simp) (own_lit w e _ len _ cs hl hk (Nat.le_refl _)) rfl)
  have := Row.lit w e _ len cs hl hk
  rwa [show (w.alloc (.cells cs.toArray e)).heap.size = w.heap.size + 1 from by simp]
end
end Go.Proofs.K

/- Equality of arrays and structs; described results inside a region that draws. -/
namespace Go.Proofs.K
open Go.RowKit
variable {P : Program} {n : NN} {Q : Exit → Fr → World → Prop} {f : Fr} {w : World} {ops : Array Oper} {rest : List Oper}

/-! equality of values of several cells -/
class TEq (P : Program) (t : TypeId) : Prop where
  k : P.keyTypeAt 4 t = true
  g : P.eqGuardType P.depth t = false
  s : (∃ fs, P.underlying t = some (.struct fs)) ∨ ∃ m e, P.underlying t = some (.array m e)
section
variable {d : Option Tmp} {t ty : TypeId} {pos : String} {af : Array Edge} {g : Option (Nat × Bool)} {x y : Operand}
theorem X_eqlK [h : TEq P ty] {D D' : Nat} {xs ys : List Value} {la lb : List Lit} (hx : ev n f x = .agg xs.toArray) (hy : ev n f y = .agg ys.toArray) (lx : xs.length = P.cellsOf ty) (ly : ys.length = P.cellsOf ty)
    (kx : P.keyLits D ty xs = some la) (ky : P.keyLits D' ty ys = some lb) {b : Bool} (hb : b = true ↔ la = lb) :
    X P n ⟨d, .binOp .eql ty x y ty, t, pos, af, g⟩ f w = .ok (.value (.bool b)) w := by
  have hf : ∀ zs : List Value, zs.length = P.cellsOf ty → (Value.agg zs.toArray).formed P ty = true := by
    intro zs hz
    rcases h.s with ⟨fs, e⟩ | ⟨m, e', e⟩ <;> simp [Value.formed, e, hz]
  obtain ⟨r, hr, hiff⟩ := run_equalIn_deep 9996 4 ty h.k w D D' (.agg xs.toArray) (.agg ys.toArray) la lb (hf _ lx) (hf _ ly) (by simpa [Value.cells] using kx) (by simpa [Value.cells] using ky)
  have he : r = b := by
    have := hiff.trans hb.symm
    revert this; cases r <;> cases b <;> simp
  rw [he] at hr
  have hg := run_eqGuard_agg (P := P) (w := w) .eql ty x y xs.toArray ys.toArray h.g
  have hs := run_eql_struct (P := P) (w := w) ty xs.toArray ys.toArray
  rw [hr] at hs
  simp only [X, execOp, hx, hy]
  simp [hg, hs, Result.andThen]
end

theorem mapM_all {α β : Type} {h : α → Option β} {g : α → β} : ∀ {l : List α}, (∀ x ∈ l, h x = some (g x)) → l.mapM h = some (l.map g)
  | [], _ => rfl
  | x :: l, hh => by
    rw [List.mapM_cons, hh x (by simp), mapM_all (fun y hy => hh y (by simp [hy]))]
    rfl
theorem wf_nat (k : IntKind) (b : Nat) (hk : k.min ≤ 0 ∧ k.max = (b : Int) - 1) {x : Nat} (hx : x < b) : (Lit.int k (x : Int)).wf = true := by
  simp only [Lit.wf, Bool.and_eq_true, decide_eq_true_eq]
  omega
theorem wf_u8 {x : Nat} (hx : x < 256) : (Lit.int .u8 (x : Int)).wf = true := wf_nat .u8 256 (by decide) hx
theorem wf_u64 {x : Nat} (hx : x < 18446744073709551616) : (Lit.int .u64 (x : Int)).wf = true := wf_nat .u64 18446744073709551616 (by decide) hx
theorem keyLits_int {e : TypeId} {k : IntKind} [h : TInt P e k] (D : Nat) {x : Nat} (hx : (Lit.int k (x : Int)).wf = true) : P.keyLits (D + 1) e [.int k (x : Int)] = some [.int k (x : Int)] := by
  simp [Program.keyLits, h.h, hx]
theorem range_getD (l : List Nat) : (List.range l.length).map (fun i => l.getD i 0) = l := by
  apply List.ext_getElem
  · simp
  · intro i h1 h2; simp [List.getD, h2]
theorem keyLits_arr {t e m : Nat} {k : IntKind} [h : TArr P t m e] [hk : TInt P e k] (D : Nat) (he : P.cellsOf e = 1) (ht : P.cellsOf t = m) {l : List Nat} (hl : l.length = m) (hw : ∀ x ∈ l, (Lit.int k (x : Int)).wf = true) :
    P.keyLits (D + 2) t (ints k l) = some (l.map fun x => .int k (x : Int)) := by
  subst hl
  unfold Program.keyLits
  simp only [h.h, ints_len, ht, if_true, he, Nat.mul_one]
  rw [mapM_all (g := fun i => [Lit.int k ((l.getD i 0 : Nat) : Int)])]
  · simp only [Option.map_some, Option.some.injEq]
    conv => rhs; rw [← range_getD l]
    rw [List.map_map]
    induction List.range l.length with
    | nil => rfl
    | cons a r ih => simp only [List.map_cons, List.flatten_cons, ih]; rfl
  · intro i hi
    have hi' : i < l.length := List.mem_range.1 hi
    have : ((ints k l).drop i).take 1 = [Value.int k ((l.getD i 0 : Nat) : Int)] := by
      rw [List.drop_eq_getElem_cons (by rw [ints_len]; exact hi')]
      simp [ints, List.getD, hi']
    rw [this]
    exact keyLits_int D (hw _ (by simp [List.getD, hi']))
theorem keyLits_two {t : TypeId} {f0 f1 : Field} {D : Nat} {cs : List Value} {a b : List Lit} (h : P.underlying t = some (.struct #[f0, f1])) (n0 : (f0.name != "_") = true) (n1 : (f1.name != "_") = true) (hl : cs.length = P.cellsOf t)
    (k0 : P.keyLits D f0.type ((cs.drop f0.offset).take (P.cellsOf f0.type)) = some a) (k1 : P.keyLits D f1.type ((cs.drop f1.offset).take (P.cellsOf f1.type)) = some b) : P.keyLits (D + 1) t cs = some (a ++ b) := by
  unfold Program.keyLits
  simp [h, hl, n0, n1, k0, k1]
theorem lits_inj {k : IntKind} {a b : List Nat} : (a.map fun x : Nat => Lit.int k (x : Int)) = (b.map fun x : Nat => Lit.int k (x : Int)) ↔ a = b := by
  constructor
  · intro h
    induction a generalizing b with
    | nil => cases b with
      | nil => rfl
      | cons y b => simp at h
    | cons x a ih => cases b with
      | nil => simp at h
      | cons y b =>
        simp only [List.map_cons, List.cons.injEq, Lit.int.injEq, true_and] at h
        rw [ih h.2, show x = y by omega]
  · rintro rfl; rfl

/-! described results in a region that draws -/
section
variable {A : Nat → World → Prop} {Fin : List Oper → (Rho → Fr) → (Rho → Nat → World → Prop) → Prop} {k : Nat} {E : List Ent} {g : Rho → Fr} {H : Rho → Nat → World → Prop} {d : Tmp} {op : Op} {t : TypeId} {pos : String} {af : Array Edge} {w0 : World}
/-- the row v, of blocks made since w0 -/
def RowF (w0 : World) (size : Nat) (v : Value) (m : Nat) (xs : List Value) (w : World) : Prop := ∃ lo hi, w0.heap.size ≤ lo ∧ Row w lo hi size v m xs
def OwnF (w0 : World) (e : TypeId) (size : Nat) (v : Value) (m : Nat) (xs : List Value) (w : World) : Prop := ∃ b, w0.heap.size ≤ b ∧ w.ownsRow b e size v m xs
theorem RowF.ext {size m : Nat} {v : Value} {xs : List Value} {w w' : World} (E : Ext w w') (h : RowF w0 size v m xs w) : RowF w0 size v m xs w' := by
  obtain ⟨lo, hi, h1, h2⟩ := h; exact ⟨lo, hi, h1, h2.ext E⟩
theorem OwnF.ext {e : TypeId} {size m : Nat} {v : Value} {xs : List Value} {w w' : World} (E : Ext w w') (h : OwnF w0 e size v m xs w) : OwnF w0 e size v m xs w' := by
  obtain ⟨b, h1, h2⟩ := h; exact ⟨b, h1, own_ext h2 E⟩
theorem OwnF.row {e : TypeId} {size m : Nat} {v : Value} {xs : List Value} {w : World} (h : OwnF w0 e size v m xs w) : RowF w0 size v m xs w := by
  obtain ⟨b, h1, h2⟩ := h; exact ⟨b, w.heap.size, h1, Row.of_own h2⟩
/-- an operation whose result is described -/
theorem DW_d {R : Nat → World → World → Prop} [ExtR R] {F : Rho → Value → World → Prop} (hX : ∀ r w, A k w → (∀ j, td ops k j = true → H r j w) → ∃ v w', X P n ⟨some d, op, t, pos, af, none⟩ (g r) w = .ok (.value v) w' ∧ Ext w w' ∧ F r v w') (hF : ∀ i r v w w', i ≠ k → td ops k i = false → R i w w' → F r v w → F r v w')
    (hi : ∀ r v, F (rset r k v) = F r)
    (hr : DW R P n ops A Fin rest (k + 1) E (fun r => upd (g r) d (r k)) (fun r j w => bif Nat.beq j k then F r (r k) w else H r j w)) : DW R P n ops A Fin (⟨some d, op, t, pos, af, none⟩ :: rest) k (.op (fun r w => F r (r k) w) :: E) g H := by
  refine .op (fun r w hA hH => ⟨rfl, ?_⟩) (fun i r w w' h1 h2 hE h => hF i _ _ _ _ h1 h2 hE h) hr
  obtain ⟨v, w', h1, h2, h3⟩ := hX r w hA hH
  exact Run_val h1 ⟨ExtR.h _ _ _ h2, by rw [rset_self, hi]; exact h3⟩
end

theorem calls_own {w0 : World} {id : FuncId} {vl : Array Value} {e0 : TypeId} {size m : Nat} {xs : List Value} (hA : Ext w0 w) (h : Calls P id vl w fun e w' => ∃ q, e = .returned q ∧ Ext w w' ∧ w'.ownsRow w.heap.size e0 size q m xs) :
    Calls P id vl w fun e w' => ∃ q, e = .returned q ∧ Ext w w' ∧ OwnF w0 e0 size q m xs w' :=
  Calls.mono h fun _ _ ⟨q, h1, h2, h3⟩ => ⟨q, h1, h2, w.heap.size, hA.size, h3⟩

/-! a region that also stores a whole variable of several cells ahead of its end -/
/-- all that was stays, but for the block g, that holds the old cells or the new ones -/
def RB (g : Nat) (T : TypeId) (o l : List Value) (_ : Nat) (w w' : World) : Prop := w.grownBy w' (some g) ∧ (Blk w g T l → Blk w' g T l) ∧ (Blk w g T o → Blk w' g T o ∨ Blk w' g T l)
theorem RB.refl (g : Nat) (T : TypeId) (o l : List Value) (i : Nat) (w : World) : RB g T o l i w w := ⟨⟨rfl, rfl, rfl, Nat.le_refl _, fun _ _ _ => rfl⟩, id, .inl⟩
instance {g : Nat} {T : TypeId} {o l : List Value} : ExtR (RB g T o l) := ⟨fun _ _ _ E => ⟨E.row _, fun h => h.ext E, fun h => .inl (h.ext E)⟩⟩
def AB (g : Nat) (T : TypeId) (o l : List Value) (w0 w : World) : Prop := w0.grownBy w (some g) ∧ (Blk w g T o ∨ Blk w g T l)
theorem AB.step {g : Nat} {T : TypeId} {o l : List Value} {w0 : World} : ∀ i w w', RB g T o l i w w' → AB g T o l w0 w → AB g T o l w0 w' :=
  fun _ _ _ ⟨h1, h2, h3⟩ ⟨k1, k2⟩ => ⟨grown_trans' k1 h1 (fun _ h => .inl h), k2.elim h3 fun h => .inr (h2 h)⟩
theorem AB.new {g : Nat} {T : TypeId} {o l : List Value} {w0 : World} (h : Blk w0 g T o) : AB g T o l w0 w0.drew := ⟨(Ext.drew w0).row _, .inl (h.ext (Ext.drew w0))⟩
section
variable {A : Nat → World → Prop} {Fin : List Oper → (Rho → Fr) → (Rho → Nat → World → Prop) → Prop} {k : Nat} {E : List Ent} {g : Rho → Fr} {H : Rho → Nat → World → Prop} {t : TypeId} {pos : String} {af : Array Edge} {w0 : World} {ty : TypeId} {x y : Operand}
theorem DW_store {b size : Nat} {T : TypeId} {o l : List Value} [TAgg P ty size] (hx : ∀ r, ev n (g r) x = .pointer (some ⟨b, 0, none⟩)) (hy : ∀ r, ev n (g r) y = .agg l.toArray) (ho : o.length = size) (hl : l.length = size) (h1 : ∀ v ∈ l, v.oneCell' = true)
    (hr : DW (RB b T o l) P n ops (fun _ => AB b T o l w0) Fin rest (k + 1) E g (fun r j w => bif Nat.beq j k then Blk w b T l else H r j w)) : DW (RB b T o l) P n ops (fun _ => AB b T o l w0) Fin (⟨none, .store ty x y, t, pos, af, none⟩ :: rest) k (.op (fun _ w => Blk w b T l) :: E) g H := by
  refine .op (fun r w hA hH => ⟨rfl, ?_⟩) (fun _ _ _ _ _ _ hE h => hE.2.1 h) hr
  have key : ∀ c : List Value, c.length = size → Blk w b T c → Run P n ⟨none, .store ty x y, t, pos, af, none⟩ (g r) w fun v w' => RB b T o l k w w' ∧ Blk w' b T l := by
    intro c hc B
    have hX := X_storeA (P := P) (n := n) (f := g r) (w := w) (d := none) (t := t) (pos := pos) (af := af) (g := none) (ty := ty) (hx r) (hy r) hl h1 B (o := 0) (by omega)
    have hcs : c.take 0 ++ l ++ c.drop (0 + size) = l := by rw [List.drop_eq_nil_of_le (by omega)]; simp
    rw [hcs] at hX
    have B' := B.setRow l
    exact Run_skip hX ⟨⟨grown_setRow _ _ _, fun _ => B', fun _ => .inr B'⟩, B'⟩
  exact hA.2.elim (key o ho) (key l hl)
end
end Go.Proofs.K

/- A range over a function: the loop's rule, what is asked of the iterator, and a yield. -/
namespace Go.Proofs.K
open Go.RowKit Go.Shelf
variable {P : Program} {n : NN} {Q : Exit → Fr → World → Prop} {f : Fr} {w : World} {ops : Array Oper} {rest : List Oper}

/-- a step of the loop's book-keeping, at or beyond B -/
def Book (B : Nat) (w w' : World) : Prop := ∃ row, w.grownBy w' row ∧ ∀ r, row = some r → B ≤ r ∧ ∃ o : Obj, w.heap[r]? = some o ∧ o.isCells = false
theorem Book.put {B l : Nat} {w : World} {o : Obj} (o' : Obj) (hl : B ≤ l) (h : w.heap[l]? = some o) (hc : o.isCells = false) : Book B w (w.putObj l o') :=
  ⟨some l, grownBy_putObj' w l o', fun r e => by cases e; exact ⟨hl, o, h, hc⟩⟩
theorem Book.alloc {B : Nat} (w : World) (o : Obj) : Book B w (w.alloc o) := ⟨none, World.grownBy_alloc w o none, fun r e => by cases e⟩
def yieldV (l : Nat) : Value := .func (.yield l) #[] #[]
/-- what an iterator is asked: it yields in the states 0, 1, ..; it ends where Fin holds, or a yield has said no -/
def Iter (P : Program) (gf : FuncId) (lb : Array Value) (w : World) (Pre : Nat → Value → World → Prop) (Kp It Ix : World → World → Prop) (Fin : Nat → World → Prop) : Prop :=
  ∀ (l : Nat) (J : Nat → World → Prop) (Jx : World → Prop) (w1 : World), Ext w w1 →
    (∀ i a b, J i a → It a b → J i b) → (∀ a b, Jx a → Ix a b → Jx b) →
    (∀ i v a, J i a → Pre i v a → YieldAt Fence.wide 8 P l #[v] a fun e b => (e = .returned (.bool true) ∧ J (i + 1) b ∧ Kp a b) ∨ (e = .returned (.bool false) ∧ Jx b)) →
    J 0 w1 → Calls P gf (#[yieldV l] ++ lb) w1 fun e b => (∃ v, e = .returned v) ∧ ((∃ i, Fin i b ∧ J i b) ∨ Jx b)
/-- how a round is left -/
def roundQ (id B : Nat) (N S : World → Prop) (w : World) : Exit → Fr → World → Prop
  | .normal, _, w' => KeepsFrom B w w' ∧ N w'
  | .exit id', _, w' => id' = id ∧ KeepsFrom B w w' ∧ S w'
  | _, _, _ => False

theorem room_none {F : Fence} (h : F.depth = none) (m : Nat) : F.room m := by simp [Fence.room, h]
theorem wpIn_any {F : Fence} (h : F.depth = none) {c : Code} {Q' : Exit → Act → World → Prop} {a : Act} {m m' : Nat} (hw : c.wpIn F m P Q' a w) : c.wpIn F m' P Q' a w := fun b k cs hro hb _ => hw b k cs hro hb (room_none h _)
theorem n9 {f : FuncId} {args : Array Value} {R : Ending → World → Prop} {m : Nat} : (Calls P f args w R → CallsIn (NN.fen ⟨0, [], none⟩) m P f args w R) ∧ True := ⟨fun h => NN.calls ⟨0, [], none⟩ m h, trivial⟩
/-- a statement and the rest of a function's body -/
def TB (P : Program) (n : NN) (fn : Func) (R : Ending → World → Prop) (b d : Code) (f : Fr) (w : World) : Prop := b.wpIn n.fen 9 P (Exit.then (d.wpIn n.fen 9 P (bodyPostM n.fen 9 P fn R)) (bodyPostM n.fen 9 P fn R)) (act n f) w
theorem T_of_TB {fn : Func} {R : Ending → World → Prop} {b d : Code} (h : TB P n fn R b d f w) : T P n fn R (.seq b d) f w := wpIn_seq h
theorem T_seq2 {fn : Func} {R : Ending → World → Prop} {a b d : Code} (h : W P n a (thenQ (TB P n fn R b d) (endQ P n fn R)) f w) : T P n fn R (.seq (.seq a b) d) f w := by
  refine wpIn_seq (wpIn_seq (wpIn_mono h ?_))
  rintro e a w ⟨f, rfl, hq⟩
  cases e with
  | normal => exact hq
  | ret => exact endQ_post .ret _ _ ⟨f, rfl, hq⟩
  | panic ch => exact hq.elim
  | outgrown => exact hq
  | exit id => exact hq.elim
  | goto l => exact hq.elim
theorem T_range {k id : Nat} {fn : Func} {R : Ending → World → Prop} {g : Operand} {p : Tmp} {assign body d : Code} {gf : FuncId} {lb : Array Value}
    (hg : ev ⟨k, [], none⟩ f g = .func (.func gf) #[] lb) (he : Enters P gf)
    {Pre : Nat → Value → World → Prop} {Kp It Ix : World → World → Prop} {Fin : Nat → World → Prop} (hit : Iter P gf lb w Pre Kp It Ix Fin)
    (hKt : ∀ a b c, Kp a b → Kp b c → Kp a c) (hKb : ∀ a l o o', w.heap.size ≤ l → a.heap[l]? = some o → o.isCells = false → Kp a (a.putObj l o'))
    (hIt : ∀ a b, It a b → KeepsFrom w.heap.size a b) (hIx : ∀ a b, Ix a b → KeepsFrom w.heap.size a b)
    (Inv : Nat → World → Prop) (Stop : World → Prop) (hI : ∀ i a b, Inv i a → It a b → Inv i b) (hIb : ∀ i a b, Inv i a → Book w.heap.size a b → Inv i b)
    (hS : ∀ a b, Stop a → Ix a b → Stop b) (hSb : ∀ a b, Stop a → Book w.heap.size a b → Stop b) (hPb : ∀ i v a b, Pre i v a → Book w.heap.size a b → Pre i v b) (hFb : ∀ i a b, Fin i a → Book w.heap.size a b → Fin i b)
    (h0 : Inv 0 w) (gv : Fr → Value → Fr)
    (hassign : ∀ l v a, W P ⟨k, [], some l⟩ assign (fun e f' b => e = .normal ∧ f' = gv f v ∧ b = a) (upd f p v) a)
    (hbody : ∀ l i v a, Inv i a → Pre i v a → W P ⟨k, [], some l⟩ body (roundQ id w.heap.size (fun b => Kp a b ∧ Inv (i + 1) b) Stop a) (gv f v) a)
    (hdone : ∀ D b, w.heap.size ≤ D → ((∃ i, Fin i b ∧ Inv i b) ∨ Stop b) → b.heap[D]? = some (.deferred (some [])) → T P ⟨k, [{ target := .collected D, args := #[] }], none⟩ fn R d f b) :
    TB P ⟨k, [], none⟩ fn R (.block id (.rangeFunc g #[p] assign body)) d f w := by
  refine wpIn_block (wpIn_rangeFunc fun fn' hfn => ?_)
  obtain ⟨rec, hrec⟩ : ∃ rec : LoopState → Option Code → Loop, rec = fun st pe => { state := st, pending := pe, fn := fn', tmps := arr ⟨k, [], none⟩ f, params := #[p], assign, body, defers := w.heap.size } := ⟨_, rfl⟩
  obtain ⟨wl, hwl⟩ : ∃ wl, (w.alloc (.deferred (some []))).alloc (.loop (rec .ready none)) = wl := ⟨_, rfl⟩
  have hL1 : wl.heap[w.heap.size + 1]? = some (.loop (rec .ready none)) := by
    rw [← hwl]; have := World.alloc_heap_new (w.alloc (.deferred (some []))) (.loop (rec .ready none)); rwa [World.size_alloc] at this
  have hK1 : wl.heap[w.heap.size]? = some (.deferred (some [])) := by
    rw [← hwl]; exact (Below.heap_alloc _ _ _ (by simp)).trans (World.alloc_heap_new w _)
  have hE1 : Ext w wl := by rw [← hwl]; exact (grown_alloc w _).trans (grown_alloc _ _)
  have hI1 : Inv 0 wl := by rw [← hwl]; exact hIb _ _ _ (hIb _ _ _ h0 (Book.alloc _ _)) (Book.alloc _ _)
  refine ⟨w.heap.size + 1, [{ target := .collected w.heap.size, args := #[] }], wl, { target := .fn (.func gf) lb, args := #[yieldV (w.heap.size + 1)] }, wl, gf, #[yieldV (w.heap.size + 1)] ++ lb, wl, ?_, ?_, ?_, ?_, fun _ => by omega, ?_⟩
  · rw [← hwl, hrec]; exact run_enterLoop_outer _ _ _ _ _
  · rw [act_eval]
    simp only [resolve, hg]
    simp [yieldV, ev, go_sem]
  · exact fun _ _ => trivial
  · exact he _ _
  · have heq : ∀ st pe, (rec st pe).fn = fn' ∧ (rec st pe).tmps = arr ⟨k, [], none⟩ f ∧ (rec st pe).params = #[p] ∧ (rec st pe).assign = assign ∧ (rec st pe).body = body ∧ (rec st pe).state = st ∧ (rec st pe).pending = pe := fun st pe => by rw [hrec]; exact ⟨rfl, rfl, rfl, rfl, rfl, rfl, rfl⟩
    have hst : ∀ st pe st', ({ rec st pe with state := st' } : Loop) = rec st' pe := fun st pe st' => by rw [hrec]
    have hst2 : ∀ st pe st' pe', ({ rec st pe with state := st', pending := pe' } : Loop) = rec st' pe' := fun st pe st' pe' => by rw [hrec]
    have hlb : w.heap.size ≤ w.heap.size + 1 := by omega
    refine n9.1 ((hit (w.heap.size + 1)
      (fun i a => Inv i a ∧ a.heap[w.heap.size + 1]? = some (.loop (rec .ready none)) ∧ a.heap[w.heap.size]? = some (.deferred (some [])))
      (fun a => Stop a ∧ a.heap[w.heap.size + 1]? = some (.loop (rec .done (some (.exit id)))) ∧ a.heap[w.heap.size]? = some (.deferred (some [])))
      wl hE1
      (fun i a b h hi => ⟨hI i a b h.1 hi, (hIt a b hi).same _ _ hlb h.2.1 rfl, (hIt a b hi).same _ _ (Nat.le_refl _) h.2.2 rfl⟩)
      (fun a b h hi => ⟨hS a b h.1 hi, (hIx a b hi).same _ _ hlb h.2.1 rfl, (hIx a b hi).same _ _ (Nat.le_refl _) h.2.2 rfl⟩)
      ?_ ⟨hI1, hL1, hK1⟩).mono ?_)
    · rintro i v a ⟨hi, hl, hk⟩ hp
      have hlt : w.heap.size + 1 < a.heap.size := (Array.getElem?_eq_some_iff.1 hl).1
      have hy := run_yield (P := P) (args := #[v]) hl (by rw [(heq _ _).2.2.1]; rfl)
      rw [(heq _ _).1, (heq _ _).2.1, (heq _ _).2.2.1, (heq _ _).2.2.2.1, (heq _ _).2.2.2.2.1] at hy
      refine ⟨fn', _, assign, body, hy, roundIn_of_wpIn hfn ?_⟩
      have htm : (#[p].zip #[v]).foldl (fun (t : Array Value) (q, a) => t.setIfInBounds q a) (arr ⟨k, [], none⟩ f) = arr ⟨k, [], some (w.heap.size + 1)⟩ (upd f p v) := by
        rw [← arr_upd]; simp; rfl
      rw [htm]
      refine wpIn_any (m := 9) rfl (wpIn_mono (hassign (w.heap.size + 1) v a) ?_)
      rintro e a1 w1 ⟨f', rfl, rfl, rfl, rfl⟩
      refine ⟨_, run_beginRound hl (heq _ _).2.2.2.2.2.1, ?_⟩
      rw [hst]
      have hbk : Book w.heap.size w1 (w1.putObj (w.heap.size + 1) (.loop (rec .busy none))) := Book.put _ hlb hl rfl
      have hl2 : (w1.putObj (w.heap.size + 1) (.loop (rec .busy none))).heap[w.heap.size + 1]? = some (.loop (rec .busy none)) := World.putObj_heap_same hlt
      have hk2 : (w1.putObj (w.heap.size + 1) (.loop (rec .busy none))).heap[w.heap.size]? = some (.deferred (some [])) := (World.putObj_heap_other (by omega)).trans hk
      have hw2 := hKb w1 (w.heap.size + 1) _ (.loop (rec .busy none)) hlb hl rfl
      refine wpIn_any (m := 9) rfl (wpIn_mono (hbody (w.heap.size + 1) i v _ (hIb _ _ _ hi hbk) (hPb _ _ _ _ hp hbk)) ?_)
      have fin : ∀ (jump : Option Code) (c : World), KeepsFrom w.heap.size (w1.putObj (w.heap.size + 1) (.loop (rec .busy none))) c →
          (Instr.endRound (w.heap.size + 1) jump).run P c = .ok (.bool jump.isNone) (c.putObj (w.heap.size + 1) (.loop (rec (if jump.isNone then .ready else .done) jump))) ∧
          c.heap[w.heap.size + 1]? = some (.loop (rec .busy none)) ∧
          (c.putObj (w.heap.size + 1) (.loop (rec (if jump.isNone then .ready else .done) jump))).heap[w.heap.size + 1]? = some (.loop (rec (if jump.isNone then .ready else .done) jump)) ∧
          (c.putObj (w.heap.size + 1) (.loop (rec (if jump.isNone then .ready else .done) jump))).heap[w.heap.size]? = some (.deferred (some [])) := fun jump c hc => by
        have hl3 := hc.same _ _ hlb hl2 rfl
        have := run_endRound (P := P) jump hl3
        rw [hst2] at this
        exact ⟨this, hl3, World.putObj_heap_same (Array.getElem?_eq_some_iff.1 hl3).1, (World.putObj_heap_other (by omega)).trans (hc.same _ _ (Nat.le_refl _) hk2 rfl)⟩
      rintro e a3 w3 ⟨f3, rfl, hq⟩
      cases e with
      | normal =>
        obtain ⟨hc, hkp, hi3⟩ := hq
        obtain ⟨hr, hl3, hl4, hk4⟩ := fin none w3 hc
        exact ⟨_, _, hr, .inl ⟨rfl, ⟨hIb _ _ _ hi3 (Book.put _ hlb hl3 rfl), hl4, hk4⟩, hKt _ _ _ (hKt _ _ _ hw2 hkp) (hKb _ _ _ _ hlb hl3 rfl)⟩⟩
      | exit id' =>
        obtain ⟨rfl, hc, hs3⟩ := hq
        obtain ⟨hr, hl3, hl4, hk4⟩ := fin (some (.exit id')) w3 hc
        exact ⟨_, _, hr, .inr ⟨rfl, hSb _ _ hs3 (Book.put _ hlb hl3 rfl), hl4, hk4⟩⟩
      | ret => exact hq.elim
      | goto t => exact hq.elim
      | panic ch => exact hq.elim
      | outgrown => exact hq.elim
    · rintro e b ⟨⟨v, rfl⟩, h⟩
      rcases h with ⟨i, hf, hi, hl, hk⟩ | ⟨hs, hl, hk⟩
      · refine ⟨none, _, by have := run_endLoop (P := P) hl (by rw [(heq _ _).2.2.2.2.2.1]; simp); rw [hst, (heq _ _).2.2.2.2.2.2] at this; exact this, ?_⟩
        have hbk : Book w.heap.size b (b.putObj (w.heap.size + 1) (.loop (rec .exhausted none))) := Book.put _ hlb hl rfl
        exact hdone w.heap.size _ (Nat.le_refl _) (.inl ⟨i, hFb _ _ _ hf hbk, hIb _ _ _ hi hbk⟩) ((World.putObj_heap_other (by omega)).trans hk)
      · refine ⟨some (.exit id), _, by have := run_endLoop (P := P) hl (by rw [(heq _ _).2.2.2.2.2.1]; simp); rw [hst, (heq _ _).2.2.2.2.2.2] at this; exact this, ?_⟩
        have hbk : Book w.heap.size b (b.putObj (w.heap.size + 1) (.loop (rec .exhausted (some (.exit id))))) := Book.put _ hlb hl rfl
        refine wpIn_exit ?_
        simp only [Exit.inBlock, if_true]
        exact hdone w.heap.size _ (Nat.le_refl _) (.inr (hSb _ _ hs hbk)) ((World.putObj_heap_other (by omega)).trans hk)
section
variable {d : Tmp} {t : TypeId} {pos : String} {af : Array Edge} {x : Operand}
theorem L_yield {l : Nat} {asl : List Operand} {vl : List Value} {tys : Array TypeId} {R : Ending → World → Prop} (hn : n.ro = none) (hx : ev n f x = yieldV l) (ha : asl.map (ev n f) = vl) (hY : YieldAt Fence.wide 8 P l vl.toArray w R)
    (h : ∀ e w', R e w' → ∃ v, e = .returned v ∧ L P n ops Q rest (upd f d v) w') : L P n ops Q (⟨some d, .call ⟨.value x, asl.toArray, tys⟩, t, pos, af, none⟩ :: rest) f w := by
  obtain ⟨fn, tm, asg, body, hy, hR⟩ := hY
  have hX : X P n ⟨some d, .call ⟨.value x, asl.toArray, tys⟩, t, pos, af, none⟩ f w = .ok (.round l fn tm asg body) w := by
    subst ha
    simp [X, execOp, resolve, hx, yieldV, Deferred.ofValue, invoke, hy]
  refine L_run rfl ?_
  unfold Run
  rw [hX]
  refine ⟨hn, hR.mono fun e w' hh => ?_⟩
  obtain ⟨v, rfl, hk⟩ := h e w' hh
  exact hk
end
section
variable {d : Option Tmp} {t ty e : TypeId} {pos : String} {af : Array Edge} {g : Option (Nat × Bool)} {x y : Operand} {k : Nat} {A : Nat → World → Prop} {Fin : List Oper → (Rho → Fr) → (Rho → Nat → World → Prop) → Prop} {E : List Ent} {gf : Rho → Fr} {H : Rho → Nat → World → Prop} {R : Nat → World → World → Prop} {gd : Option (Nat × Bool)}
theorem X_nil {a : Addr} (hx : ev n f x = .pointer (some a)) : X P n ⟨d, .nilCheck x, t, pos, af, g⟩ f w = .ok (.value (.pointer (some a))) w := by
  simp [X, execOp, hx]
theorem i_nil (h : L P n ops Q (⟨d, .nilCheck x, t, pos, af, g⟩ :: rest) f w) : L P n ops Q (⟨d, .nilCheck x, t, pos, af, g⟩ :: rest) f w := h
theorem d_nil (h : DW R P n ops A Fin (⟨d, .nilCheck x, t, pos, af, gd⟩ :: rest) k E gf H) : DW R P n ops A Fin (⟨d, .nilCheck x, t, pos, af, gd⟩ :: rest) k E gf H := h
theorem X_indexVI {len i : Nat} {kk ki : IntKind} [hs : TArr P ty len e] [h1 : TOne P e] {l : List Nat} (hx : ev n f x = .agg (ints kk l).toArray) (hy : ev n f y = .int ki (i : Int)) (h : i < len) (hl : l.length = len) :
    X P n ⟨d, .index ty x y, t, pos, af, g⟩ f w = .ok (.value (.int kk ((l.getD i 0 : Nat) : Int))) w := X_indexV hx hy h (ints_get (by omega))
theorem i_copy {asl : Array Operand} {tys : Array TypeId} (h : L P n ops Q (⟨d, .call ⟨.builtin .copy, asl, tys⟩, t, pos, af, g⟩ :: rest) f w) : L P n ops Q (⟨d, .call ⟨.builtin .copy, asl, tys⟩, t, pos, af, g⟩ :: rest) f w := h
end
section
variable {d : Tmp} {t ty ty2 e : TypeId} {pos : String} {af : Array Edge} {x y : Operand}
/-- copy into a block of the call's own -/
theorem L_copy {b o b2 o2 c c2 dl sl m : Nat} {T : TypeId} {cur cs : List Value} [ht : TSlice P ty e] [hz : TSz P e 1] (hx : ev n f x = .slice (some ⟨b, o, none⟩) dl c) (hy : ev n f y = .slice (some ⟨b2, o2, none⟩) sl c2) (hB : Blk w b T cur) (hm : m = Nat.min sl dl) (hl : cs.length = m)
    (hsrc : w.rangeAt b2 o2 cs) (hfit : o + m ≤ cur.length) (h1 : ∀ v ∈ cs, v.oneCell' = true)
    (h : ∀ w', Blk w' b T (cur.take o ++ cs ++ cur.drop (o + m)) → w.grownBy w' (some b) → w'.heap.size = w.heap.size → L P n ops Q rest (upd f d (.int .i64 (m : Nat))) w') :
    L P n ops Q (⟨some d, .call ⟨.builtin .copy, #[x, y], #[ty, ty2]⟩, t, pos, af, none⟩ :: rest) f w := by
  subst hl
  have hrun := run_copy_row (P := P) w ty ty2 t e b o dl c ⟨b2, o2, none⟩ sl c2 cur.toArray T cs ht.h hz.h hB hm (fun j v hj => by rw [Addr.add_mid]; exact hsrc j v hj) (by simpa using hfit) h1
  have hX : X P n ⟨some d, .call ⟨.builtin .copy, #[x, y], #[ty, ty2]⟩, t, pos, af, none⟩ f w = .ok (.value (.int .i64 (cs.length : Nat))) (w.setRow b (cur.take o ++ cs ++ cur.drop (o + cs.length)).toArray) := by
    simp [X, execOp, resolve, invoke, builtin, hx, hy, hrun, goInt]
  exact Ls hX (h _ (hB.setRow _) (grown_setRow _ _ _) (by simp [World.setRow]))
end
section
variable {d : Option Tmp} {t ty e : TypeId} {pos : String} {af : Array Edge} {g : Option (Nat × Bool)} {x : Operand}
/-- a[i:] and a[:j] and a[:] of an array behind a pointer -/
theorem X_arrFrom {size m : Nat} [hs : TArr P ty m e] [hz : TSz P e size] {b o : Nat} {a : Operand} {ka : IntKind} {ia : Int} (i : Nat) (hx : ev n f x = .pointer (some ⟨b, o, none⟩)) (ha : ev n f a = .int ka ia) (hi : ia = (i : Int)) (him : i < m) :
    X P n ⟨d, .slice ty x (some a) none none, t, pos, af, g⟩ f w = .ok (.value (.slice (some ⟨b, o + i * size, none⟩) (m - i) (m - i))) w := by
  subst hi
  have := X_sliceArr (P := P) (n := n) (f := f) (w := w) (d := d) (t := t) (ty := ty) (pos := pos) (af := af) (g := g) (lo := some a) (hi := none) (j := m) hx ⟨ka, ha⟩ rfl (Nat.le_of_lt him) (Nat.le_refl _)
  rwa [if_neg (by omega)] at this
theorem X_arrTo {size m : Nat} [hs : TArr P ty m e] [hz : TSz P e size] {b o : Nat} {a : Operand} {ka : IntKind} {ja : Int} (j : Nat) (hx : ev n f x = .pointer (some ⟨b, o, none⟩)) (ha : ev n f a = .int ka ja) (hj : ja = (j : Int)) (hjm : j ≤ m) (hm : 0 < m) :
    X P n ⟨d, .slice ty x none (some a) none, t, pos, af, g⟩ f w = .ok (.value (.slice (some ⟨b, o, none⟩) j m)) w := by
  subst hj
  have := X_sliceArr (P := P) (n := n) (f := f) (w := w) (d := d) (t := t) (ty := ty) (pos := pos) (af := af) (g := g) (lo := none) (hi := some a) (i := 0) hx rfl ⟨ka, ha⟩ (Nat.zero_le _) hjm
  rw [if_neg (by omega)] at this
  simpa using this
theorem X_arrAll {size m : Nat} [hs : TArr P ty m e] [hz : TSz P e size] {b o : Nat} (hx : ev n f x = .pointer (some ⟨b, o, none⟩)) (hm : 0 < m) :
    X P n ⟨d, .slice ty x none none none, t, pos, af, g⟩ f w = .ok (.value (.slice (some ⟨b, o, none⟩) m m)) w := by
  have := X_sliceArr (P := P) (n := n) (f := f) (w := w) (d := d) (t := t) (ty := ty) (pos := pos) (af := af) (g := g) (lo := none) (hi := none) (i := 0) (j := m) hx rfl rfl (Nat.zero_le _) (Nat.le_refl _)
  rw [if_neg (by omega)] at this
  simpa using this
end
section
variable {d : Option Tmp} {t ty e : TypeId} {pos : String} {af : Array Edge} {g : Option (Nat × Bool)} {x y : Operand}
theorem X_eqlNil [h : TSlice P ty e] {A : Option Addr} {m c : Nat} (hx : ev n f x = .slice A m c) (hy : ev n f y = .slice none 0 0) : X P n ⟨d, .binOp .eql ty x y ty, t, pos, af, g⟩ f w = .ok (.value (.bool A.isNone)) w := by
  have hb : (binOp .eql ty (.slice A m c) (.slice none 0 0)).run P w = .ok (.bool A.isNone) w := by
    simp only [binOp]
    simp [run_equal_slice_nil w ty e A m c h.h]
  simp only [X, execOp, hx, hy, eqGuard_at_slice]
  simp [hb, Result.andThen]
theorem X_cap [h : TSlice P ty e] {A : Option Addr} {m c : Nat} (hx : ev n f x = .slice A m c) : X P n ⟨d, .call ⟨.builtin .cap, #[x], #[ty]⟩, t, pos, af, g⟩ f w = .ok (.value (.int .i64 (c : Nat))) w := by
  simp [X, execOp, resolve, invoke, builtin, hx, Builtin.cap_, run_underlying h.h, goInt]
end

/-- every block of cells but g stays -/
structure KeepBut (g : Nat) (a b : World) : Prop where
  size : a.heap.size ≤ b.heap.size
  same : ∀ k c t fz, k ≠ g → a.heap[k]? = some (.cells c t fz) → b.heap[k]? = some (.cells c t fz)
theorem KeepBut.trans {g : Nat} {a b c : World} (h : KeepBut g a b) (k : KeepBut g b c) : KeepBut g a c := ⟨Nat.le_trans h.size k.size, fun _ _ _ _ hj hx => k.same _ _ _ _ hj (h.same _ _ _ _ hj hx)⟩
theorem KeepBut.of {g : Nat} {a b : World} {row : Option Nat} (h : a.grownBy b row) (hr : ∀ r, row = some r → r = g ∨ ∃ o : Obj, a.heap[r]? = some o ∧ o.isCells = false) : KeepBut g a b :=
  ⟨h.size, fun k c t fz hk hc => (h.block k (Array.getElem?_eq_some_iff.1 hc).1 (fun e => by
    rcases hr k e.symm with rfl | ⟨o, ho, hn⟩
    · exact hk rfl
    · rw [hc] at ho; cases ho; cases hn)).trans hc⟩
theorem Book.keep {B g : Nat} {a b : World} (h : Book B a b) : KeepBut g a b := by
  obtain ⟨row, hg, hr⟩ := h
  exact KeepBut.of hg fun r e => .inr (hr r e).2
theorem KeepBut.put {g l : Nat} {a : World} {o : Obj} (o' : Obj) (h : a.heap[l]? = some o) (hc : o.isCells = false) : KeepBut g a (a.putObj l o') :=
  KeepBut.of (grownBy_putObj' a l o') fun r e => by cases e; exact .inr ⟨o, h, hc⟩
theorem KeepBut.blk {g k : Nat} {a b : World} {T : TypeId} {cs : List Value} (h : KeepBut g a b) (B : Blk a k T cs) (hk : k ≠ g) : Blk b k T cs := h.same _ _ _ _ hk B
theorem cells_of_cell {w : World} {a : Addr} {v : Value} (h : w.cell? a = some v) : ∃ c t fz, w.heap[a.block]? = some (.cells c t fz) := by
  unfold World.cell? at h
  split at h
  · rename_i c t fz he; exact ⟨c, t, fz, he⟩
  · cases h
theorem KeepBut.cell {g : Nat} {a b : World} {p : Addr} {v : Value} (h : KeepBut g a b) (hp : p.block ≠ g) (hv : a.cell? p = some v) : b.cell? p = some v := by
  obtain ⟨c, t, fz, hc⟩ := cells_of_cell hv
  unfold World.cell? at hv ⊢
  rw [h.same _ _ _ _ hp hc]
  rw [hc] at hv
  exact hv
theorem KeepBut.row {g lo hi size m : Nat} {a b : World} {v : Value} {xs : List Value} (h : KeepBut g a b) (hr : Row a lo hi size v m xs) (hg : ¬ (lo ≤ g ∧ g < hi)) : Row b lo hi size v m xs := by
  obtain ⟨hl, A, c, he, hc, hcm, hn⟩ := hr
  refine ⟨hl, A, c, he, hc, hcm, fun h0 => ?_⟩
  obtain ⟨q, o, hA, h1, h2, h3⟩ := hn h0
  exact ⟨q, o, hA, h1, h2, fun j u hu => h.cell (fun e => hg (by simp only at e; omega)) (h3 j u hu)⟩
theorem KeepBut.own {g base size m : Nat} {a b : World} {e : TypeId} {v : Value} {xs : List Value} (h : KeepBut g a b) (ho : a.ownsRow base e size v m xs) (hg : g < base) : b.ownsRow base e size v m xs := by
  refine ⟨ho.1, ?_⟩
  rcases ho.2 with hn | ⟨q, cap, cur, hv, hb, hq, rest⟩
  · exact .inl hn
  · exact .inr ⟨q, cap, cur, hv, hb, h.same _ _ _ _ (by omega) hq, rest⟩
/-- a row lies in blocks that are there -/
theorem Row.tight {w : World} {lo hi m : Nat} {v : Value} {xs : List Value} (h : Row w lo hi 1 v m xs) : Row w lo w.heap.size 1 v m xs := by
  obtain ⟨hl, A, c, he, hc, hcm, hn⟩ := h
  refine ⟨hl, A, c, he, hc, hcm, fun h0 => ?_⟩
  obtain ⟨q, o, hA, h1, h2, h3⟩ := hn h0
  refine ⟨q, o, hA, h1, ?_, h3⟩
  have hx : ∃ u, xs[0]? = some u := ⟨xs[0]'(by omega), List.getElem?_eq_getElem (by omega)⟩
  obtain ⟨u, hu⟩ := hx
  obtain ⟨c, t, fz, hcc⟩ := cells_of_cell (h3 0 u hu)
  exact (Array.getElem?_eq_some_iff.1 hcc).1
section
variable {d : Tmp} {t ty ty2 e : TypeId} {pos : String} {af : Array Edge} {x y : Operand} {k : IntKind}
/-- append(nil, make([]T, m)...) -/
theorem L_appendZ {m : Nat} {z : Value} [ht : TSlice P ty e] [hu : TInt P ty2 k] [hz : TInfo P e 1 1 z] (hzs : z.cells.size = 1) (hx : ev n f x = .slice none 0 0) (hy : ev n f y = .int .i64 (m : Nat)) (hm0 : 0 < m) (hm : m ≤ 1000000000)
    (h : ∀ c w', Ext w w' → m ≤ c → c ≤ maxLen → (∃ xs : List Value, xs.length = m ∧ w'.ownsRow w.heap.size e 1 (.slice (some ⟨w.heap.size, 0, none⟩) m c) m xs) → L P n ops Q rest (upd f d (.slice (some ⟨w.heap.size, 0, none⟩) m c)) w') :
    L P n ops Q (⟨some d, .call ⟨.builtin .append, #[x, y], #[ty, ty2]⟩, t, pos, af, none⟩ :: rest) f w := by
  obtain ⟨i, hi', h0, h2, h3⟩ := info_parts hz.h
  have hrun := Lib.run_append_nil_zeros (P := P) w ty ty2 t e i z .i64 k ht.h hu.h hi' h0 m hm0 (by omega) (by omega) (by rw [h3]; omega)
  have hge := grownCap_ge w m 0 e
  have hcm := grownCap_le_maxLen w m 0 e (by unfold maxLen; omega)
  refine Ls (X_of_run hx hy hrun) (h _ _ ⟨rfl, rfl, rfl, by simp, fun j hj _ => heap_alloc_old w.drew _ hj⟩ hge hcm ⟨(Builtin.zeroCells z.cells m).toList, by simp [size_zeroCells, hzs], by simp [size_zeroCells, hzs], .inr ⟨w.heap.size, _, _, rfl, Nat.le_refl _, heap_alloc_new w.drew _, hge, hcm, ?_, ?_⟩⟩)
  · simp only [Array.size_append, size_zeroCells, hzs]
    omega
  · rw [Array.toList_append, List.take_left' (by simp [size_zeroCells, hzs])]
end
/-! cells that are known, in a block of which no more is said (a package-level variable) -/
def Rng (w : World) (k : Nat) (cs : List Value) : Prop := w.rangeAt k 0 cs
theorem Rng.ext {w w' : World} {k : Nat} {cs : List Value} (h : Rng w k cs) (E : Ext w w') : Rng w' k cs := E.range h
theorem Rng.grown {w w' : World} {row : Option Nat} {k : Nat} {cs : List Value} (h : Rng w k cs) (hg : w.grownBy w' row) (hr : row ≠ some k) : Rng w' k cs := fun j v hv => World.grownBy.cell hg (h j v hv) (fun e => hr e.symm)
theorem Rng.cell {w : World} {k j : Nat} {cs : List Value} {v : Value} (h : Rng w k cs) (hv : cs[j]? = some v) : w.cell? ⟨k, j, none⟩ = some v := by have := h j v hv; rwa [Nat.zero_add] at this
theorem Rng.lt {w : World} {k : Nat} {cs : List Value} (h : Rng w k cs) (h0 : 0 < cs.length) : k < w.heap.size := World.block_lt_of_cell? w _ (h.cell (List.getElem?_eq_getElem h0))
section
variable {d : Option Tmp} {t ty : TypeId} {pos : String} {af : Array Edge} {g : Option (Nat × Bool)} {x : Operand} {k : IntKind}
theorem X_ldIg [TOne P ty] {b o : Nat} {l : List Nat} (hx : ev n f x = .pointer (some ⟨b, o, none⟩)) (hB : Rng w b (ints k l)) (hv : o < l.length) : X P n ⟨d, .load ty x, t, pos, af, g⟩ f w = .ok (.value (.int k ((l.getD o 0 : Nat) : Int))) w :=
  X_load1 hx (hB.cell (ints_get hv))
theorem X_ldWg {size : Nat} [hs : TAgg P ty size] {b : Nat} {cs : List Value} (hx : ev n f x = .pointer (some ⟨b, 0, none⟩)) (hB : Rng w b cs) (hl : cs.length = size) : X P n ⟨d, .load ty x, t, pos, af, g⟩ f w = .ok (.value (.agg cs.toArray)) w :=
  X_loadA hx hB hl
end
end Go.Proofs.K

/- Literals of slices inside a region that draws. -/
namespace Go.Proofs.K
open Go.RowKit
variable {P : Program} {n : NN} {f : Fr} {w : World} {ops : Array Oper} {rest : List Oper}
section
variable {A : Nat → World → Prop} {Fin : List Oper → (Rho → Fr) → (Rho → Nat → World → Prop) → Prop} {k : Nat} {E : List Ent} {g : Rho → Fr} {H : Rho → Nat → World → Prop} {d : Tmp} {t ty e : TypeId} {pos : String} {af : Array Edge} {w0 : World} {x y : Operand}
theorem RowF.lit (w : World) (e : TypeId) (cs : List Value) (h0 : w0.heap.size ≤ w.heap.size) (m : Nat) (hm : cs.length = m) (hk : m ≤ maxLen) : RowF w0 1 (.slice (some ⟨w.heap.size, 0, none⟩) m m) m cs (w.alloc (.cells cs.toArray e)) :=
  ⟨_, _, h0, Row.lit w e 1 m cs (by omega) hk⟩
theorem DW_lit2 {z0 : Value} [TSlice P ty e] [TZero P e [z0]] (a b : Rho → Value) (hx : ∀ r, ev n (g r) x = a r) (hy : ∀ r, ev n (g r) y = b r)
    (h1 : ∀ r w, A k w → (∀ j, td ops k j = true → H r j w) → (a r).oneCell' = true ∧ (b r).oneCell' = true) (hA0 : ∀ w, A k w → w0.heap.size ≤ w.heap.size) (ha : ∀ r v, a (rset r k v) = a r) (hb : ∀ r v, b (rset r k v) = b r)
    (hr : DW ExtN P n ops A Fin rest (k + 1) E (fun r => upd (g r) d (r k)) (fun r j w => bif Nat.beq j k then RowF w0 1 (r k) 2 [a r, b r] w else H r j w)) :
    DW ExtN P n ops A Fin (⟨some d, .buildSlice ty 2 #[(0, x), (1, y)], t, pos, af, none⟩ :: rest) k (.op (fun r w => RowF w0 1 (r k) 2 [a r, b r] w) :: E) g H :=
  DW_d (F := fun r u w => RowF w0 1 u 2 [a r, b r] w) (fun r w hA hH => ⟨_, _, X_lit2 (hx r) (hy r) (h1 r w hA hH).1 (h1 r w hA hH).2, grown_alloc _ _, RowF.lit w e _ (hA0 w hA) 2 rfl (by unfold maxLen; omega)⟩)
    (fun _ r u w w' _ _ E h => RowF.ext E h) (fun r u => by simp only [ha, hb]) hr
theorem DW_lit1 {z0 : Value} [TSlice P ty e] [TZero P e [z0]] (a : Rho → Value) (hx : ∀ r, ev n (g r) x = a r)
    (h1 : ∀ r w, A k w → (∀ j, td ops k j = true → H r j w) → (a r).oneCell' = true) (hA0 : ∀ w, A k w → w0.heap.size ≤ w.heap.size) (ha : ∀ r v, a (rset r k v) = a r)
    (hr : DW ExtN P n ops A Fin rest (k + 1) E (fun r => upd (g r) d (r k)) (fun r j w => bif Nat.beq j k then RowF w0 1 (r k) 1 [a r] w else H r j w)) :
    DW ExtN P n ops A Fin (⟨some d, .buildSlice ty 1 #[(0, x)], t, pos, af, none⟩ :: rest) k (.op (fun r w => RowF w0 1 (r k) 1 [a r] w) :: E) g H :=
  DW_d (F := fun r u w => RowF w0 1 u 1 [a r] w) (fun r w hA hH => ⟨_, _, X_lit1 (hx r) (h1 r w hA hH), grown_alloc _ _, RowF.lit w e _ (hA0 w hA) 1 rfl (by unfold maxLen; omega)⟩)
    (fun _ r u w w' _ _ E h => RowF.ext E h) (fun r u => by simp only [ha]) hr
/-- a variable made inside a region that draws -/
def NewF (w0 : World) (ty : TypeId) (z : List Value) (u : Value) (w : World) : Prop := ∃ q, u = .pointer (some ⟨q, 0, none⟩) ∧ w0.heap.size ≤ q ∧ Blk w q ty z
theorem NewF.ext {z : List Value} {u : Value} {w w' : World} (E : Ext w w') (h : NewF w0 ty z u w) : NewF w0 ty z u w' := by
  obtain ⟨q, h1, h2, h3⟩ := h; exact ⟨q, h1, h2, h3.ext E⟩
theorem DW_alloc {z : List Value} [hz : TZero P ty z] (hA0 : ∀ w, A k w → w0.heap.size ≤ w.heap.size)
    (hr : DW ExtN P n ops A Fin rest (k + 1) E (fun r => upd (g r) d (r k)) (fun r j w => bif Nat.beq j k then NewF w0 ty z (r k) w else H r j w)) :
    DW ExtN P n ops A Fin (⟨some d, .alloc ty, t, pos, af, none⟩ :: rest) k (.op (fun r w => NewF w0 ty z (r k) w) :: E) g H :=
  DW_d (F := fun _ u w => NewF w0 ty z u w) (fun r w hA hH => by
    obtain ⟨v, hv, hc⟩ := hz.h
    cases hq : P.info? ty with
    | none => simp [hq] at hv
    | some i =>
      have h0 : i.zero = some v := by simpa [hq] using hv
      haveI : TInfo P ty i.size i.bytes v := ⟨by simp [hq, h0]⟩
      exact ⟨_, _, X_alloc, grown_alloc _ _, w.heap.size, rfl, hA0 w hA, by rw [hc]; exact Blk.new _ _ _⟩)
    (fun _ _ u w w' _ _ E h => NewF.ext E h) (fun _ _ => rfl) hr
end
section
variable {d : Option Tmp} {t ty ty' : TypeId} {pos : String} {af : Array Edge} {g : Option (Nat × Bool)} {x y : Operand}
theorem X_addS {a b : ByteArray} (hx : ev n f x = .string a) (hy : ev n f y = .string b) (h : a.size + b.size ≤ 9223372036854775807) : X P n ⟨d, .binOp .add ty x y ty', t, pos, af, g⟩ f w = .ok (.value (.string (a ++ b))) w := by
  have h' : ¬ (((a.size + b.size : Nat) : Int) > IntKind.i64.max) := by
    have : IntKind.i64.max = 9223372036854775807 := by decide
    omega
  have e : (Op.stringOp .add a b).run P w = .ok (.string (a ++ b)) w := by
    simp only [Op.stringOp]
    rw [if_neg h']; rfl
  simp [X, execOp, hx, hy, eqGuard_add, binOp, e, Result.andThen]
end
end Go.Proofs.K

/- An append keeps what other slices of the same block own. -/
namespace Go.Proofs.K
open Go.RowKit
variable {P : Program} {n : NN} {Q : Exit → Fr → World → Prop} {f : Fr} {w : World} {ops : Array Oper} {rest : List Oper}

/-- every row of at most m elements is owned as it was -/
def Keeps (e size m : Nat) (w w' : World) : Prop := ∀ base0 v0 m0 xs0, m0 ≤ m → w.ownsRow base0 e size v0 m0 xs0 → w'.ownsRow base0 e size v0 m0 xs0
theorem Keeps.of_ext {e size m : Nat} {w w' : World} (E : Ext w w') : Keeps e size m w w' := fun _ _ _ _ _ h => own_ext h E
theorem Keeps.trans {e size m m' : Nat} {a b c : World} (h : Keeps e size m a b) (k : Keeps e size m' b c) (hm : m ≤ m') : Keeps e size m a c := fun _ _ _ _ hl ho => k _ _ _ _ (Nat.le_trans hl hm) (h _ _ _ _ hl ho)
theorem Keeps.setRow {e size m g cap : Nat} {cur : Array Value} {zs : List Value} {w : World} (hg : w.heap[g]? = some (.cells cur e (0, 0))) (_hc : cur.size = cap * size) (hz : zs.length = cur.size) (ht : zs.take (m * size) = cur.toList.take (m * size)) : Keeps e size m w (w.setRow g zs.toArray) := by
  intro base0 v0 m0 xs0 hm ho
  refine ⟨ho.1, ?_⟩
  rcases ho.2 with h | ⟨g0, cap0, cur0, hv, hb, hc0, h1, h2, h3, h4⟩
  · exact .inl h
  · by_cases hgg : g0 = g
    · subst hgg
      rw [hg] at hc0
      injection hc0 with hc0
      injection hc0 with hc0 _ _
      subst hc0
      refine .inr ⟨g0, cap0, zs.toArray, hv, hb, setRow_heap w g0 _ _ _ _ hg, h1, h2, by simp [hz, h3], ?_⟩
      rw [← h4]
      have hmm : m0 * size ≤ m * size := Nat.mul_le_mul_right _ hm
      have e1 := congrArg (List.take (m0 * size)) ht
      rwa [List.take_take, List.take_take, Nat.min_eq_left hmm] at e1
    · exact .inr ⟨g0, cap0, cur0, hv, hb, (setRow_other w g g0 _ hgg).trans hc0, h1, h2, h3, h4⟩
theorem run_appendK {lo hi size bytes m k base : Nat} {t ty e : TypeId} {z u v : Value} {xs ys : List Value} [ht : TSlice P t e] [hz : TInfo P e size bytes z]
    (hzs : z.cells.size = size) (hsz : 0 < size) (hown : w.ownsRow base e size v m xs) (hr : Row w lo hi size u k ys) (h1 : ∀ q ∈ ys, q.oneCell' = true) (hb : (m + k) * bytes ≤ 140737488355328) (hm : m + k ≤ 9223372036854775807) (hbase : base ≤ w.heap.size) :
    ∃ v' w', (Builtin.append_ #[t, t] ty #[v, u]).run P w = .ok v' w' ∧ w'.ownsRow base e size v' (m + k) (xs ++ ys) ∧ w.grownBy w' v.ownBlock ∧ (v'.ownBlock = v.ownBlock ∨ v'.ownBlock = some w.heap.size) ∧ Keeps e size m w w' := by
  obtain ⟨v', w', hrun, ho, hg, hbb⟩ := run_append (P := P) (ty := ty) (t := t) hzs hsz hown hr h1 hb hm hbase
  refine ⟨v', w', hrun, ho, hg, hbb, ?_⟩
  obtain ⟨i, hi', h0, h2, h3⟩ := info_parts hz.h
  rcases hown.2 with ⟨rfl, rfl⟩ | ⟨g, cap, cur, rfl, hb0, hcur, hnc, hcm, hcs, htk⟩
  · exact Keeps.of_ext hg
  obtain ⟨hl, A, c, rfl, hc, hcm', hn⟩ := hr
  have room : ∀ ad : Addr, m + k ≤ cap → (∀ j u, ys[j]? = some u → w.cell? (ad.add j) = some u) → A = some ad → Keeps e size m w w' := by
    intro ad hle hnews hA
    subst hA
    have hfit : m * i.size + ys.length ≤ cur.size := by rw [h2, hl, hcs, ← Nat.add_mul]; exact Nat.mul_le_mul_right _ hle
    have := run_append_room (P := P) w t ty e i ht.h hi' g m cap cur hcur ad k c ys (by rw [h2]; exact hl) hnews h1 hle hfit
    rw [hrun] at this
    injection this with _ hw'
    subst hw'
    refine Keeps.setRow hcur hcs ?_ ?_
    · simp only [List.length_append, List.length_take, List.length_drop, Array.length_toList]; omega
    · rw [h2] at hfit ⊢
      rw [List.append_assoc, List.take_append_of_le_length (by simp; omega), List.take_take, Nat.min_self]
  rcases Nat.eq_zero_or_pos k with hk | hk
  · subst hk
    obtain rfl : ys = [] := List.eq_nil_of_length_eq_zero (by simpa using hl)
    rcases A with _ | ad
    · have := run_append_nil' (P := P) w base t ty e i size ht.h hi' _ m xs hown c
      rw [hrun] at this
      injection this with _ hw'
      subst hw'
      exact Keeps.of_ext (Ext.refl _)
    · exact room ad (by omega) (by simp) rfl
  · obtain ⟨b, o, rfl, hb1, hb2, hcell⟩ := hn hk
    rcases Nat.lt_or_ge cap (m + k) with hlt | hge
    · have hxs : ∀ j u, xs[j]? = some u → w.cell? ((⟨g, 0, none⟩ : Addr).add j) = some u := fun j u hu => by
        have := (Row.of_own hown)
        obtain ⟨_, A', c', he, _, _, hn'⟩ := this
        injection he with e1 _ _
        by_cases hm0 : 0 < m
        · obtain ⟨b', o', hA', _, _, hr'⟩ := hn' hm0
          rw [hA'] at e1; injection e1 with e1
          have := hr' j u hu
          rw [Addr.add_mid]
          cases e1
          exact this
        · have h00 := hown.1
          obtain rfl : m = 0 := by omega
          have : xs = [] := List.eq_nil_of_length_eq_zero (by simpa using h00)
          rw [this] at hu; simp at hu
      have := run_append_grow (P := P) w t ty e i z ht.h hi' h0 ⟨g, 0, none⟩ m cap xs (by rw [h2]; exact hown.1) hxs ⟨b, o, none⟩ k c ys (by rw [h2]; exact hl) (fun j u hu => by rw [Addr.add_mid]; exact hcell j u hu) hlt (by omega) (growslice_fits (by omega) (by rw [h3]; exact hb))
      rw [hrun] at this
      injection this with _ hw'
      subst hw'
      exact Keeps.of_ext ⟨rfl, rfl, rfl, by simp, fun j hj _ => heap_alloc_old w.drew _ hj⟩
    · exact room _ hge (fun j u hu => by rw [Addr.add_mid]; exact hcell j u hu) rfl
section
variable {d : Tmp} {t ty e : TypeId} {pos : String} {af : Array Edge} {x y : Operand}
theorem L_appendK {lo hi size bytes m k base : Nat} {u v : Value} {xs ys : List Value} [ht : TSlice P ty e] [hz : TElem P e size bytes]
    (hx : ev n f x = v) (hy : ev n f y = u) (hown : w.ownsRow base e size v m xs) (hr : Row w lo hi size u k ys) (h1 : ∀ q ∈ ys, q.oneCell' = true) (hb : (m + k) * bytes ≤ 140737488355328) (hm : m + k ≤ 9223372036854775807) (hbase : base ≤ w.heap.size)
    (h : ∀ v' w', w'.ownsRow base e size v' (m + k) (xs ++ ys) → w.grownBy w' v.ownBlock → (v'.ownBlock = v.ownBlock ∨ v'.ownBlock = some w.heap.size) → Keeps e size m w w' → L P n ops Q rest (upd f d v') w') :
    L P n ops Q (⟨some d, .call ⟨.builtin .append, #[x, y], #[ty, ty]⟩, t, pos, af, none⟩ :: rest) f w := by
  obtain ⟨z, h0, hzs, hsz⟩ := hz.h
  haveI : TInfo P e size bytes z := ⟨h0⟩
  obtain ⟨v', w', hX, h2, h3, h4, h5⟩ := run_appendK (P := P) (ty := t) (t := ty) hzs hsz hown hr h1 hb hm hbase
  exact Ls (X_of_run hx hy hX) (h v' w' h2 h3 h4 h5)
end
theorem own_other {w w' : World} {base e size m : Nat} {v : Value} {xs : List Value} {row : Option Nat} (h : w.ownsRow base e size v m xs) (hg : w.grownBy w' row) (hr : ∀ g, v.ownBlock = some g → row ≠ some g) : w'.ownsRow base e size v m xs := by
  refine ⟨h.1, ?_⟩
  rcases h.2 with hn | ⟨g, cap, cur, hv, hb, hc, rest⟩
  · exact .inl hn
  · have hlt : g < w.heap.size := (Array.getElem?_eq_some_iff.1 hc).1
    exact .inr ⟨g, cap, cur, hv, hb, (hg.block g hlt (fun e => hr g (by rw [hv]; rfl) e.symm)).trans hc, rest⟩
/-! a region that draws, one of whose operations (k0) appends to a row of the function's own -/
def RA (k0 : Nat) (bl : Option Nat) (e size m : Nat) : Nat → World → World → Prop := fun i a b => Ext a b ∨ (i = k0 ∧ a.grownBy b bl ∧ Keeps e size m a b)
instance {k0 : Nat} {bl : Option Nat} {e size m : Nat} : ExtR (RA k0 bl e size m) := ⟨fun _ _ _ h => .inl h⟩
theorem RA.refl (k0 : Nat) (bl : Option Nat) (e size m : Nat) (i : Nat) (w : World) : RA k0 bl e size m i w w := .inl (Ext.refl w)
theorem RA.keeps {k0 : Nat} {bl : Option Nat} {e size m i : Nat} {a b : World} (h : RA k0 bl e size m i a b) : Keeps e size m a b := h.elim Keeps.of_ext fun h => h.2.2
theorem RA.grown {k0 : Nat} {bl : Option Nat} {e size m i : Nat} {a b : World} (h : RA k0 bl e size m i a b) : a.grownBy b bl := h.elim (fun E => E.row _) fun h => h.2.1
theorem RA.other {k0 : Nat} {bl : Option Nat} {e size m i : Nat} {a b : World} (h : RA k0 bl e size m i a b) (hi : i ≠ k0) : Ext a b := h.elim id fun h => absurd h.1 hi
/-- what holds in such a region of the world: the row as it was, all else as it was -/
structure AA (w0 : World) (bl : Option Nat) (base e size : Nat) (v : Value) (m : Nat) (xs : List Value) (w : World) : Prop where
  g : w0.grownBy w bl
  o : w.ownsRow base e size v m xs
theorem AA.new {w0 : World} {base e size m : Nat} {v : Value} {xs : List Value} (h : w0.ownsRow base e size v m xs) : AA w0 v.ownBlock base e size v m xs w0.drew := ⟨(Ext.drew w0).row _, own_ext h (Ext.drew w0)⟩
theorem AA.step {w0 : World} {k0 base e size m : Nat} {bl : Option Nat} {v : Value} {xs : List Value} : ∀ i a b, RA k0 bl e size m i a b → AA w0 bl base e size v m xs a → AA w0 bl base e size v m xs b :=
  fun _ _ _ h ⟨h1, h2⟩ => ⟨grown_trans' h1 h.grown (fun _ h => .inl h), h.keeps _ _ _ _ (Nat.le_refl _) h2⟩
section
variable {R : Nat → World → World → Prop} {A : Nat → World → Prop} {Fin : List Oper → (Rho → Fr) → (Rho → Nat → World → Prop) → Prop} {k : Nat} {E : List Ent} {g : Rho → Fr} {H : Rho → Nat → World → Prop} {d : Tmp} {t : TypeId} {pos : String} {af : Array Edge}
/-- a call whose result is described, in a region of any relation -/
theorem DW_fr {F : Value → World → Prop} {id : FuncId} [TFun P id] {l : List Operand} {vl : Rho → List Value} {tys : Array TypeId} (ha : ∀ r, l.map (ev n (g r)) = vl r)
    (hc : ∀ r w, A k w → (∀ j, td ops k j = true → H r j w) → Calls P id (vl r).toArray w fun e w' => ∃ v, e = .returned v ∧ R k w w' ∧ F v w') (hF : ∀ i v w w', i ≠ k → td ops k i = false → R i w w' → F v w → F v w')
    (hr : DW R P n ops A Fin rest (k + 1) E (fun r => upd (g r) d (r k)) (fun r j w => bif Nat.beq j k then F (r k) w else H r j w)) : DW R P n ops A Fin (⟨some d, .call ⟨.value (.func id), l.toArray, tys⟩, t, pos, af, none⟩ :: rest) k (.op (fun r w => F (r k) w) :: E) g H :=
  .op (fun r w hA hH => ⟨wants_none rfl, Run_call (X_fn (ha r)) (hc r w hA hH) fun e w' ⟨v, he, hE, hv⟩ => ⟨v, he, hE, by rw [rset_self]; exact hv⟩⟩) (fun i r w w' h1 h2 hE h => hF i _ _ _ h1 h2 hE h) hr
end
end Go.Proofs.K

/- Sets of ints (map[int]struct), and stores to a variable that a region that draws has made. -/
namespace Go.Proofs.K
open Go.RowKit Go.Maps Go.MapKept
variable {P : Program} {n : NN} {Q : Exit → Fr → World → Prop} {f : Fr} {w : World} {ops : Array Oper} {rest : List Oper}

/-- block b is a set that holds just the numbers of l -/
def IsSet (P : Program) (kt : TypeId) (w : World) (b : Nat) (l : List Nat) : Prop :=
  ∃ n D, n ≤ l.length ∧ w.ownsMap (H := Unit) P kt unitElem b n D ∧ ∀ x : Nat, x < 9223372036854775808 → Maps.has D (.int .i64 (x : Int)) = decide (x ∈ l)
theorem IsSet.kept {kt b : Nat} {l : List Nat} {w w' : World} {row : Option Nat} (h : IsSet P kt w b l) (hg : w.grownBy w' row) (hne : some b ≠ row) : IsSet P kt w' b l := by
  obtain ⟨n, D, h1, h2, h3⟩ := h
  exact ⟨n, D, h1, h2.kept hg hne, h3⟩
theorem IsSet.lt {kt b : Nat} {l : List Nat} {w : World} (h : IsSet P kt w b l) : b < w.heap.size := by
  obtain ⟨n, D, h1, h2, h3⟩ := h
  exact h2.lt
theorem IsSet.notCells {kt b : Nat} {l : List Nat} {w : World} (h : IsSet P kt w b l) : ∀ c t fz, w.heap[b]? ≠ some (.cells c t fz) := by
  obtain ⟨n, D, h1, ⟨es, clock, hb, _⟩, h3⟩ := h
  intro c t fz e
  rw [hb] at e; cases e
theorem wf_i64 {x : Nat} (hx : x < 9223372036854775808) : (Lit.int .i64 (x : Int)).wf = true := wf_nat .i64 9223372036854775808 (by decide) hx
section
variable {d : Tmp} {t ty kt e : TypeId} {pos : String} {af : Array Edge} {x y z : Operand}
theorem L_makeSet (h : ∀ w', IsSet P kt w' w.heap.size [] → Ext w w' → w'.heap.size = w.heap.size + 1 → L P n ops Q rest (upd f d (.map (some w.heap.size))) w') :
    L P n ops Q (⟨some d, .makeMap ty none, t, pos, af, none⟩ :: rest) f w := by
  refine Ls (v := .map (some w.heap.size)) (w' := w.alloc (.map #[] 0)) ?_ (h _ ⟨0, .map [], Nat.le_refl _, World.ownsMap_made w P kt unitElem, fun x _ => by simp [has_eq]⟩ (grown_alloc _ _) (by simp))
  simp [X, execOp, run_makeMap]
theorem X_lookSet {dd : Option Tmp} {g : Option (Nat × Bool)} [hm : TMap P ty kt e] [hk : TInt P kt .i64] (hz : (P.info? e).bind (·.zero) = some (.agg #[])) {b : Nat} {l : List Nat} {a : Nat} (hx : ev n f x = .map (some b)) (hy : ev n f y = .int .i64 (a : Nat)) (hs : IsSet P kt w b l) (ha : a < 9223372036854775808) :
    X P n ⟨dd, .lookup ty x y true, t, pos, af, g⟩ f w = .ok (.value (.tuple [.agg #[], .bool (decide (a ∈ l))].toArray)) w := by
  obtain ⟨q, D, h1, h2, h3⟩ := hs
  have hzv : (zeroValue e).run P w = .ok (.agg #[]) w := by
    cases hq : P.info? e with
    | none => rw [hq] at hz; cases hz
    | some i => rw [hq] at hz; simp at hz; simp [zeroValue, typeInfo, hq, hz]
  obtain ⟨v, ps, hrun, hv⟩ := h2.look_ok (int_keyed hk.h) hm.h hzv (unitElem_mk (H := Unit)) (keyOf_int_mk hk.h (wf_i64 ha))
  obtain ⟨rfl, _⟩ := unitElem_inv hv
  rw [h3 a ha] at hrun
  simp [X, execOp, hx, hy, hrun, Result.andThen]
theorem L_putSet [hm : TMap P ty kt e] [hk : TInt P kt .i64] {b : Nat} {l : List Nat} {a : Nat} (hx : ev n f x = .map (some b)) (hy : ev n f y = .int .i64 (a : Nat)) (hv : ev n f z = .agg #[]) (hs : IsSet P kt w b l) (ha : a < 9223372036854775808) (hl : l.length < maxLen)
    (h : ∀ w', IsSet P kt w' b (l ++ [a]) → w.grownBy w' (some b) → w'.heap.size = w.heap.size → L P n ops Q rest f w') :
    L P n ops Q (⟨none, .mapUpdate ty x y z, t, pos, af, none⟩ :: rest) f w := by
  obtain ⟨q, D, h1, h2, h3⟩ := hs
  have hD : IsMap D := h2.isMap
  obtain ⟨w', hrun, h4, h5⟩ := h2.store (int_keyed hk.h) hm.h (Nat.lt_of_le_of_lt h1 hl) (keyOf_int_mk hk.h (wf_i64 ha)) (unitElem_mk (H := Unit))
  refine Ln (w' := w') ?_ (h w' ⟨q + 1, _, by simp; omega, h4, fun y hy => ?_⟩ h5.grown ?_)
  · simp [X, execOp, hx, hy, hv, hrun, Result.andThen]
  · by_cases hya : y = a
    · subst hya
      rw [has_put_same hD (by exact trivial)]
      simp
    · rw [has_put_other (by intro e; injection e with _ e; exact hya (by omega)), h3 y hy]
      simp [hya]
  · obtain ⟨es, clock, es', clock', hb, rfl⟩ := h5
    simp [Go.ChangeMaps.setBlock]
end
/-! a region that draws, one of whose operations (k0) stores to a variable that the region itself has made -/
def RN (k0 : Nat) (w0 : World) (T : TypeId) (z l : List Value) : Nat → World → World → Prop := fun i a b => Ext a b ∨ (i = k0 ∧ ∃ q, w0.heap.size ≤ q ∧ (Blk a q T z ∨ Blk a q T l) ∧ a.grownBy b (some q) ∧ Blk b q T l)
section
variable {k0 : Nat} {w0 : World} {T : TypeId} {z l : List Value}
instance : ExtR (RN k0 w0 T z l) := ⟨fun _ _ _ h => .inl h⟩
theorem RN.refl (i : Nat) (w : World) : RN k0 w0 T z l i w w := .inl (Ext.refl w)
theorem RN.other {i : Nat} {a b : World} (h : RN k0 w0 T z l i a b) (hi : i ≠ k0) : Ext a b := h.elim id fun h => absurd h.1 hi
theorem RN.step : ∀ i a b, RN k0 w0 T z l i a b → Ext w0 a → Ext w0 b := fun _ _ _ h E => h.elim (fun e => E.trans e) fun ⟨_, q, hq, _, hg, _⟩ => E.then hg (fun g hg => by cases hg; exact hq)
theorem RN.blk {i g : Nat} {T' : TypeId} {cs : List Value} {a b : World} (h : RN k0 w0 T z l i a b) (B : Blk a g T' cs) (hT : T' ≠ T) : Blk b g T' cs := h.elim (fun e => B.ext e) fun ⟨_, q, _, hz, hg, _⟩ => B.grown hg (by
  intro e; injection e with e
  exact hz.elim (fun hz => B.ne_ hz hT e.symm) (fun hz => B.ne_ hz hT e.symm))
/-- the variable, before or behind the store -/
def NewZ (w0 : World) (T : TypeId) (z l : List Value) (u : Value) (w : World) : Prop := ∃ q, u = .pointer (some ⟨q, 0, none⟩) ∧ w0.heap.size ≤ q ∧ (Blk w q T z ∨ Blk w q T l)
theorem NewZ.step {i : Nat} {u : Value} {a b : World} (h : RN k0 w0 T z l i a b) (hn : NewZ w0 T z l u a) : NewZ w0 T z l u b := by
  obtain ⟨q, h1, h2, h3⟩ := hn
  refine ⟨q, h1, h2, ?_⟩
  rcases h with e | ⟨_, q', hq, hz, hg, hb⟩
  · exact h3.imp (fun B => B.ext e) (fun B => B.ext e)
  · by_cases hqq : q = q'
    · subst hqq; exact .inr hb
    · exact h3.imp (fun B => B.grown hg (fun e => hqq (by injection e with e; exact e.symm))) (fun B => B.grown hg (fun e => hqq (by injection e with e; exact e.symm)))
theorem NewF.stepN {i : Nat} {T' : TypeId} {cs : List Value} {u : Value} {a b : World} (hT : T' ≠ T) (h : RN k0 w0 T z l i a b) (hn : NewF w0 T' cs u a) : NewF w0 T' cs u b := by
  obtain ⟨q, h1, h2, h3⟩ := hn
  exact ⟨q, h1, h2, h.blk h3 hT⟩
variable {Fin : List Oper → (Rho → Fr) → (Rho → Nat → World → Prop) → Prop} {k : Nat} {E : List Ent} {g : Rho → Fr} {H : Rho → Nat → World → Prop} {d : Tmp} {t ty : TypeId} {pos : String} {af : Array Edge} {x y : Operand}
theorem alloc_new {w : World} {z' : List Value} [hz : TZero P ty z'] {f : Fr} (h0 : w0.heap.size ≤ w.heap.size) : ∃ v w', X P n ⟨some d, .alloc ty, t, pos, af, none⟩ f w = .ok (.value v) w' ∧ Ext w w' ∧ NewF w0 ty z' v w' := by
  obtain ⟨v, hv, hc⟩ := hz.h
  cases hq : P.info? ty with
  | none => simp [hq] at hv
  | some i =>
    have h0' : i.zero = some v := by simpa [hq] using hv
    haveI : TInfo P ty i.size i.bytes v := ⟨by simp [hq, h0']⟩
    exact ⟨_, _, X_alloc, grown_alloc _ _, w.heap.size, rfl, h0, by rw [hc]; exact Blk.new _ _ _⟩
theorem DW_allocZ [hz : TZero P T z]
    (hr : DW (RN k0 w0 T z l) P n ops (fun _ => Ext w0) Fin rest (k + 1) E (fun r => upd (g r) d (r k)) (fun r j w => bif Nat.beq j k then NewZ w0 T z l (r k) w else H r j w)) :
    DW (RN k0 w0 T z l) P n ops (fun _ => Ext w0) Fin (⟨some d, .alloc T, t, pos, af, none⟩ :: rest) k (.op (fun r w => NewZ w0 T z l (r k) w) :: E) g H :=
  DW_d (F := fun _ u w => NewZ w0 T z l u w) (fun r w hA hH => by
    obtain ⟨v, w', h1, h2, q, h3, h4, h5⟩ := alloc_new (P := P) (n := n) (d := d) (t := t) (pos := pos) (af := af) (ty := T) (z' := z) (f := g r) hA.size
    exact ⟨v, w', h1, h2, q, h3, h4, .inl h5⟩)
    (fun _ _ u w w' _ _ E h => NewZ.step E h) (fun _ _ => rfl) hr
theorem DW_allocO {z' : List Value} [hz : TZero P ty z'] (hT : ty ≠ T)
    (hr : DW (RN k0 w0 T z l) P n ops (fun _ => Ext w0) Fin rest (k + 1) E (fun r => upd (g r) d (r k)) (fun r j w => bif Nat.beq j k then NewF w0 ty z' (r k) w else H r j w)) :
    DW (RN k0 w0 T z l) P n ops (fun _ => Ext w0) Fin (⟨some d, .alloc ty, t, pos, af, none⟩ :: rest) k (.op (fun r w => NewF w0 ty z' (r k) w) :: E) g H :=
  DW_d (F := fun _ u w => NewF w0 ty z' u w) (fun r w hA hH => alloc_new hA.size)
    (fun _ _ u w w' _ _ E h => NewF.stepN hT E h) (fun _ _ => rfl) hr
theorem DW_storeN {size kx : Nat} [TAgg P ty size] (hx : ∀ r, ev n (g r) x = r kx) (hy : ∀ r, ev n (g r) y = .agg l.toArray) (hzl : z.length = size) (hl : l.length = size) (h1 : ∀ v ∈ l, v.oneCell' = true) (hkx : kx ≠ k0)
    (hz : ∀ r w, Ext w0 w → (∀ j, td ops k0 j = true → H r j w) → NewZ w0 T z l (r kx) w)
    (hr : DW (RN k0 w0 T z l) P n ops (fun _ => Ext w0) Fin rest (k0 + 1) E g (fun r j w => bif Nat.beq j k0 then (∃ q, r kx = .pointer (some ⟨q, 0, none⟩) ∧ w0.heap.size ≤ q ∧ Blk w q T l) else H r j w)) :
    DW (RN k0 w0 T z l) P n ops (fun _ => Ext w0) Fin (⟨none, .store ty x y, t, pos, af, none⟩ :: rest) k0 (.op (fun r w => ∃ q, r kx = .pointer (some ⟨q, 0, none⟩) ∧ w0.heap.size ≤ q ∧ Blk w q T l) :: E) g H := by
  refine .op (fun r w hA hH => ⟨rfl, ?_⟩) (fun i r w w' hi _ hE ⟨q, h1, h2, h3⟩ => ⟨q, h1, h2, h3.ext (hE.other hi)⟩) hr
  obtain ⟨q, e, hq, hB⟩ := hz r w hA hH
  have key : ∀ c : List Value, c.length = size → Blk w q T c → (Blk w q T z ∨ Blk w q T l) → Run P n ⟨none, .store ty x y, t, pos, af, none⟩ (g r) w fun v w' => RN k0 w0 T z l k0 w w' ∧ ∃ q, rset r k0 v kx = .pointer (some ⟨q, 0, none⟩) ∧ w0.heap.size ≤ q ∧ Blk w' q T l := by
    intro c hc B hB
    have hX := X_storeA (P := P) (n := n) (f := g r) (w := w) (d := none) (t := t) (pos := pos) (af := af) (g := none) (ty := ty) ((hx r).trans e) (hy r) hl h1 B (o := 0) (by omega)
    have hcs : c.take 0 ++ l ++ c.drop (0 + size) = l := by rw [List.drop_eq_nil_of_le (by omega)]; simp
    rw [hcs] at hX
    have B' := B.setRow l
    exact Run_skip hX ⟨.inr ⟨rfl, q, hq, hB, grown_setRow _ _ _, B'⟩, q, by rw [rset_other _ _ hkx]; exact e, hq, B'⟩
  exact hB.elim (fun B => key z hzl B (.inl B)) (fun B => key l hl B (.inr B))
end
end Go.Proofs.K

/- Guards struck, strings compared, structs compared by '!='. -/
namespace Go.Proofs.K
open Go.RowKit
variable {P : Program} {n : NN} {Q : Exit → Fr → World → Prop} {f : Fr} {w : World} {ops : Array Oper} {rest : List Oper}
/-- an operation whose guard says yes is as one without -/
theorem L_strip {d : Option Tmp} {op : Op} {t : TypeId} {pos : String} {af : Array Edge} {j : Nat} {want : Bool} {t' : Tmp} (hd : (ops[j]?).bind (·.dst) = some t') (hn : Nat.blt t' n.k = true) (hv : f t' = .bool want)
    (h : L P n ops Q (⟨d, op, t, pos, af, none⟩ :: rest) f w) : L P n ops Q (⟨d, op, t, pos, af, some (j, want)⟩ :: rest) f w :=
  L_on ((wants_at rfl hd hn hv).trans (by cases want <;> rfl)) (h.1 (wants_none rfl))
section
/-- a guard that was not run itself -/
theorem wants_un {o : Oper} {j : Nat} {want : Bool} {t' : Tmp} (hg : o.guard = some (j, want)) (hd : (ops[j]?).bind (·.dst) = some t') (hn : Nat.blt t' n.k = true) (hv : f t' = undef) : wants n ops f o = false := by
  rw [wants_strip hg]
  have hlt : t' < n.k := by rwa [Nat.blt_eq] at hn
  have : yielded ops (arr n f) j = none := by
    unfold yielded
    rw [hd]
    simp only [Option.bind_some, arr_get?, hlt, if_true, hv]
    rfl
  rw [this]
  rfl
theorem Lo3 {d : Option Tmp} {op : Op} {t : TypeId} {pos : String} {af : Array Edge} {j : Nat} {want : Bool} {t' : Tmp} (hd : (ops[j]?).bind (·.dst) = some t') (hn : Nat.blt t' n.k = true) (hv : f t' = undef) (h : L P n ops Q rest (updo f d undef) w) :
    L P n ops Q (⟨d, op, t, pos, af, some (j, want)⟩ :: rest) f w := Lo (wants_un rfl hd hn hv) h
variable {d : Option Tmp} {t ty ty' : TypeId} {pos : String} {af : Array Edge} {g : Option (Nat × Bool)} {x y : Operand}
theorem X_eqlS {a b : ByteArray} (hx : ev n f x = .string a) (hy : ev n f y = .string b) (h : a = b) : X P n ⟨d, .binOp .eql ty x y ty', t, pos, af, g⟩ f w = .ok (.value (.bool true)) w := by
  subst h
  have e : (binOp .eql ty (.string a) (.string a)).run P w = .ok (.bool true) w := by
    simp [binOp, Op.stringOp]
  simp [X, execOp, hx, hy, eqGuard_at_string, e, Result.andThen]
theorem X_neqK [h : TEq P ty] {D D' : Nat} {xs ys : List Value} {la lb : List Lit} (hx : ev n f x = .agg xs.toArray) (hy : ev n f y = .agg ys.toArray) (lx : xs.length = P.cellsOf ty) (ly : ys.length = P.cellsOf ty)
    (kx : P.keyLits D ty xs = some la) (ky : P.keyLits D' ty ys = some lb) {b : Bool} (hb : b = true ↔ la ≠ lb) :
    X P n ⟨d, .binOp .neq ty x y ty, t, pos, af, g⟩ f w = .ok (.value (.bool b)) w := by
  have hf : ∀ zs : List Value, zs.length = P.cellsOf ty → (Value.agg zs.toArray).formed P ty = true := by
    intro zs hz
    rcases h.s with ⟨fs, e⟩ | ⟨m, e', e⟩ <;> simp [Value.formed, e, hz]
  obtain ⟨r, hr, hiff⟩ := run_equalIn_deep 9996 4 ty h.k w D D' (.agg xs.toArray) (.agg ys.toArray) la lb (hf _ lx) (hf _ ly) (by simpa [Value.cells] using kx) (by simpa [Value.cells] using ky)
  have he : (!r) = b := by
    revert hb hiff; cases r <;> cases b <;> simp
  have hg := run_eqGuard_agg (P := P) (w := w) .neq ty x y xs.toArray ys.toArray h.g
  have hs := run_neq_struct (P := P) (w := w) ty xs.toArray ys.toArray
  rw [hr] at hs
  simp only [X, execOp, hx, hy]
  simp [hg, hs, Result.andThen, he]
end
/-! guarded operations inside a region that draws -/
section
variable {R : Nat → World → World → Prop} {A : Nat → World → Prop} {Fin : List Oper → (Rho → Fr) → (Rho → Nat → World → Prop) → Prop} {k : Nat} {E : List Ent} {g : Rho → Fr} {H : Rho → Nat → World → Prop} {d : Tmp} {op : Op} {t : TypeId} {pos : String} {af : Array Edge}
theorem DW_on2 [ExtR R] {V : Rho → Value} {j : Nat} {want : Bool} {t' : Tmp} (hd : (ops[j]?).bind (·.dst) = some t') (hn : Nat.blt t' n.k = true) (hv : ∀ r, g r t' = .bool want)
    (hX : ∀ r w, A k w → (∀ j, td ops k j = true → H r j w) → X P n ⟨some d, op, t, pos, af, none⟩ (g r) w = .ok (.value (V r)) w)
    (hr : DW R P n ops A Fin rest (k + 1) E (fun r => upd (g r) d (V r)) H) : DW R P n ops A Fin (⟨some d, op, t, pos, af, some (j, want)⟩ :: rest) k (.st V :: E) g H :=
  DW_on (fun r => (wants_at rfl hd hn (hv r)).trans (by cases want <;> rfl)) hX hr
theorem DW_off2 [ExtR R] {o : Option Tmp} {j : Nat} {want b : Bool} {t' : Tmp} (hd : (ops[j]?).bind (·.dst) = some t') (hn : Nat.blt t' n.k = true) (hv : ∀ r, g r t' = .bool b) (hb : (b == want) = false)
    (hr : DW R P n ops A Fin rest (k + 1) E (fun r => updo (g r) o undef) H) : DW R P n ops A Fin (⟨o, op, t, pos, af, some (j, want)⟩ :: rest) k (.st (fun _ => undef) :: E) g H :=
  DW_off (fun r => by rw [wants_at rfl hd hn (hv r)]; exact hb) hr
theorem DW_off3 [ExtR R] {o : Option Tmp} {j : Nat} {want : Bool} {t' : Tmp} (hd : (ops[j]?).bind (·.dst) = some t') (hn : Nat.blt t' n.k = true) (hv : ∀ r, g r t' = undef)
    (hr : DW R P n ops A Fin rest (k + 1) E (fun r => updo (g r) o undef) H) : DW R P n ops A Fin (⟨o, op, t, pos, af, some (j, want)⟩ :: rest) k (.st (fun _ => undef) :: E) g H :=
  DW_off (fun r => wants_un rfl hd hn (hv r)) hr
theorem DW_fn2 [ExtR R] {V : Rho → Value} {id : FuncId} [TFun P id] {l : List Operand} {vl : Rho → List Value} {tys : Array TypeId} {j : Nat} {want : Bool} {t' : Tmp} (hd : (ops[j]?).bind (·.dst) = some t') (hn : Nat.blt t' n.k = true) (hv : ∀ r, g r t' = .bool want)
    (ha : ∀ r, l.map (ev n (g r)) = vl r) (hc : ∀ r w, A k w → (∀ j, td ops k j = true → H r j w) → Calls P id (vl r).toArray w fun e w' => e = .returned (V r) ∧ Ext w w')
    (hr : DW R P n ops A Fin rest (k + 1) E (fun r => upd (g r) d (V r)) H) : DW R P n ops A Fin (⟨some d, .call ⟨.value (.func id), l.toArray, tys⟩, t, pos, af, some (j, want)⟩ :: rest) k (.st V :: E) g H :=
  DW_fn (fun r => (wants_at rfl hd hn (hv r)).trans (by cases want <;> rfl)) ha hc hr
theorem DW_fo2 [ExtR R] {F : Value → World → Prop} {id : FuncId} [TFun P id] {l : List Operand} {vl : Rho → List Value} {tys : Array TypeId} {j : Nat} {want : Bool} {t' : Tmp} (hd : (ops[j]?).bind (·.dst) = some t') (hn : Nat.blt t' n.k = true) (hv : ∀ r, g r t' = .bool want)
    (ha : ∀ r, l.map (ev n (g r)) = vl r) (hc : ∀ r w, A k w → (∀ j, td ops k j = true → H r j w) → Calls P id (vl r).toArray w fun e w' => ∃ v, e = .returned v ∧ Ext w w' ∧ F v w') (hF : ∀ i v w w', i ≠ k → td ops k i = false → R i w w' → F v w → F v w')
    (hr : DW R P n ops A Fin rest (k + 1) E (fun r => upd (g r) d (r k)) (fun r j w => bif Nat.beq j k then F (r k) w else H r j w)) : DW R P n ops A Fin (⟨some d, .call ⟨.value (.func id), l.toArray, tys⟩, t, pos, af, some (j, want)⟩ :: rest) k (.op (fun r w => F (r k) w) :: E) g H :=
  DW_fo (fun r => (wants_at rfl hd hn (hv r)).trans (by cases want <;> rfl)) ha hc hF hr
theorem d_ng {d : Option Tmp} (h : DW R P n ops A Fin (⟨d, op, t, pos, af, none⟩ :: rest) k E g H) : DW R P n ops A Fin (⟨d, op, t, pos, af, none⟩ :: rest) k E g H := h
theorem d_gd {d : Option Tmp} {gd : Nat × Bool} (h : DW R P n ops A Fin (⟨d, op, t, pos, af, some gd⟩ :: rest) k E g H) : DW R P n ops A Fin (⟨d, op, t, pos, af, some gd⟩ :: rest) k E g H := h
end
section
variable {d : Option Tmp} {t ty : TypeId} {pos : String} {af : Array Edge} {g : Option (Nat × Bool)} {x : Operand}
theorem i_field {kk : Nat} (h : L P n ops Q (⟨d, .field ty x kk, t, pos, af, g⟩ :: rest) f w) : L P n ops Q (⟨d, .field ty x kk, t, pos, af, g⟩ :: rest) f w := h
end
section
variable {d : Option Tmp} {t ty : TypeId} {pos : String} {af : Array Edge} {g : Option (Nat × Bool)} {x : Operand}
theorem X_fieldL {kk off ft size : Nat} [hf : TFld P ty kk off ft] [h1 : TAgg P ft size] {l l' : List Value} (hx : ev n f x = .agg l.toArray) (hv : (l.drop off).take size = l') :
    X P n ⟨d, .field ty x kk, t, pos, af, g⟩ f w = .ok (.value (.agg l'.toArray)) w := by
  subst hv; exact X_fieldA hx
end
end Go.Proofs.K
