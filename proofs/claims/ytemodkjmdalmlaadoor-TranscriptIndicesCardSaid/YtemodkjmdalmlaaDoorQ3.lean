/- KD, KE, S1, S2, S3, S4, S5, S6, S7, TP, KF, KG, KH, KI, KT, RB, RC, S8, A1. -/
import Derived.Test.YtemodkjmdalmlaaDoorQ2
import Derived.Shelf.Abstract
import Derived.Laws.CopyRow
import Derived.Laws.Cover3
import Derived.Lib.AppendZeros
import Derived.Laws.AppendOwn
import Derived.Maps.OwnSet
/- Equality of arrays and structs; described results inside a region that draws. -/
namespace Go.Proofs.K
open Go.RowKit
variable {P : Program} {n : NN} {Q : Exit → Fr → World → Prop} {f : Fr} {w : World} {ops : Array Oper} {rest : List Oper}

/-! equality of values of several cells -/
class TEq (P : Program) (t : TypeId) : Prop where
  k : P.keyTypeAt 4 t = true
  g : P.eqGuardType P.depth t = false
  s : (∃ fs, P.underlying t = some (.struct fs)) ∨ ∃ m e, P.underlying t = some (.array m e)
section
variable {d : Option Tmp} {t ty : TypeId} {pos : String} {af : Array Edge} {g : Option (Nat × Bool)} {x y : Operand}
theorem X_eqlK [h : TEq P ty] {D D' : Nat} {xs ys : List Value} {la lb : List Lit} (hx : ev n f x = .agg xs.toArray) (hy : ev n f y = .agg ys.toArray) (lx : xs.length = P.cellsOf ty) (ly : ys.length = P.cellsOf ty)
    (kx : P.keyLits D ty xs = some la) (ky : P.keyLits D' ty ys = some lb) {b : Bool} (hb : b = true ↔ la = lb) :
    X P n ⟨d, .binOp .eql ty x y ty, t, pos, af, g⟩ f w = .ok (.value (.bool b)) w := by
  have hf : ∀ zs : List Value, zs.length = P.cellsOf ty → (Value.agg zs.toArray).formed P ty = true := by
    intro zs hz
    rcases h.s with ⟨fs, e⟩ | ⟨m, e', e⟩ <;> simp [Value.formed, e, hz]
  obtain ⟨r, hr, hiff⟩ := run_equalIn_deep 9996 4 ty h.k w D D' (.agg xs.toArray) (.agg ys.toArray) la lb (hf _ lx) (hf _ ly) (by simpa [Value.cells] using kx) (by simpa [Value.cells] using ky)
  have he : r = b := by
    have := hiff.trans hb.symm
    revert this; cases r <;> cases b <;> simp
  rw [he] at hr
  have hg := run_eqGuard_agg (P := P) (w := w) .eql ty x y xs.toArray ys.toArray h.g
  have hs := run_eql_struct (P := P) (w := w) ty xs.toArray ys.toArray
  rw [hr] at hs
  simp only [X, execOp, hx, hy]
  simp [hg, hs, Result.andThen]
end

theorem mapM_all {α β : Type} {h : α → Option β} {g : α → β} : ∀ {l : List α}, (∀ x ∈ l, h x = some (g x)) → l.mapM h = some (l.map g)
  | [], _ => rfl
  | x :: l, hh => by
    rw [List.mapM_cons, hh x (by simp), mapM_all (fun y hy => hh y (by simp [hy]))]
    rfl
theorem wf_nat (k : IntKind) (b : Nat) (hk : k.min ≤ 0 ∧ k.max = (b : Int) - 1) {x : Nat} (hx : x < b) : (Lit.int k (x : Int)).wf = true := by
  simp only [Lit.wf, Bool.and_eq_true, decide_eq_true_eq]
  omega
theorem wf_u8 {x : Nat} (hx : x < 256) : (Lit.int .u8 (x : Int)).wf = true := wf_nat .u8 256 (by decide) hx
theorem wf_u64 {x : Nat} (hx : x < 18446744073709551616) : (Lit.int .u64 (x : Int)).wf = true := wf_nat .u64 18446744073709551616 (by decide) hx
theorem keyLits_int {e : TypeId} {k : IntKind} [h : TInt P e k] (D : Nat) {x : Nat} (hx : (Lit.int k (x : Int)).wf = true) : P.keyLits (D + 1) e [.int k (x : Int)] = some [.int k (x : Int)] := by
  simp [Program.keyLits, h.h, hx]
theorem range_getD (l : List Nat) : (List.range l.length).map (fun i => l.getD i 0) = l := by
  apply List.ext_getElem
  · simp
  · intro i h1 h2; simp [List.getD, h2]
theorem keyLits_arr {t e m : Nat} {k : IntKind} [h : TArr P t m e] [hk : TInt P e k] (D : Nat) (he : P.cellsOf e = 1) (ht : P.cellsOf t = m) {l : List Nat} (hl : l.length = m) (hw : ∀ x ∈ l, (Lit.int k (x : Int)).wf = true) :
    P.keyLits (D + 2) t (ints k l) = some (l.map fun x => .int k (x : Int)) := by
  subst hl
  unfold Program.keyLits
  simp only [h.h, ints_len, ht, if_true, he, Nat.mul_one]
  rw [mapM_all (g := fun i => [Lit.int k ((l.getD i 0 : Nat) : Int)])]
  · simp only [Option.map_some, Option.some.injEq]
    conv => rhs; rw [← range_getD l]
    rw [List.map_map]
    induction List.range l.length with
    | nil => rfl
    | cons a r ih => simp only [List.map_cons, List.flatten_cons, ih]; rfl
  · intro i hi
    have hi' : i < l.length := List.mem_range.1 hi
    have : ((ints k l).drop i).take 1 = [Value.int k ((l.getD i 0 : Nat) : Int)] := by
      rw [List.drop_eq_getElem_cons (by rw [ints_len]; exact hi')]
      simp [ints, List.getD, hi']
    rw [this]
    exact keyLits_int D (hw _ (by simp [List.getD, hi']))
theorem keyLits_two {t : TypeId} {f0 f1 : Field} {D : Nat} {cs : List Value} {a b : List Lit} (h : P.underlying t = some (.struct #[f0, f1])) (n0 : (f0.name != "_") = true) (n1 : (f1.name != "_") = true) (hl : cs.length = P.cellsOf t)
    (k0 : P.keyLits D f0.type ((cs.drop f0.offset).take (P.cellsOf f0.type)) = some a) (k1 : P.keyLits D f1.type ((cs.drop f1.offset).take (P.cellsOf f1.type)) = some b) : P.keyLits (D + 1) t cs = some (a ++ b) := by
  unfold Program.keyLits
  simp [h, hl, n0, n1, k0, k1]
theorem lits_inj {k : IntKind} {a b : List Nat} : (a.map fun x : Nat => Lit.int k (x : Int)) = (b.map fun x : Nat => Lit.int k (x : Int)) ↔ a = b := by
  constructor
  · intro h
    induction a generalizing b with
    | nil => cases b with
      | nil => rfl
      | cons y b => simp at h
    | cons x a ih => cases b with
      | nil => simp at h
      | cons y b =>
        simp only [List.map_cons, List.cons.injEq, Lit.int.injEq, true_and] at h
        rw [ih h.2, show x = y by omega]
  · rintro rfl; rfl

/-! described results in a region that draws -/
section
variable {A : World → Prop} {Fin : List Oper → (Rho → Fr) → (Rho → Nat → World → Prop) → Prop} {k : Nat} {E : List Ent} {g : Rho → Fr} {H : Rho → Nat → World → Prop} {d : Tmp} {op : Op} {t : TypeId} {pos : String} {af : Array Edge} {w0 : World}
/-- the row v, of blocks made since w0 -/
def RowF (w0 : World) (size : Nat) (v : Value) (m : Nat) (xs : List Value) (w : World) : Prop := ∃ lo hi, w0.heap.size ≤ lo ∧ Row w lo hi size v m xs
def OwnF (w0 : World) (e : TypeId) (size : Nat) (v : Value) (m : Nat) (xs : List Value) (w : World) : Prop := ∃ b, w0.heap.size ≤ b ∧ w.ownsRow b e size v m xs
theorem RowF.ext {size m : Nat} {v : Value} {xs : List Value} {w w' : World} (E : Ext w w') (h : RowF w0 size v m xs w) : RowF w0 size v m xs w' := by
  obtain ⟨lo, hi, h1, h2⟩ := h; exact ⟨lo, hi, h1, h2.ext E⟩
theorem OwnF.ext {e : TypeId} {size m : Nat} {v : Value} {xs : List Value} {w w' : World} (E : Ext w w') (h : OwnF w0 e size v m xs w) : OwnF w0 e size v m xs w' := by
  obtain ⟨b, h1, h2⟩ := h; exact ⟨b, h1, own_ext h2 E⟩
theorem OwnF.row {e : TypeId} {size m : Nat} {v : Value} {xs : List Value} {w : World} (h : OwnF w0 e size v m xs w) : RowF w0 size v m xs w := by
  obtain ⟨b, h1, h2⟩ := h; exact ⟨b, w.heap.size, h1, Row.of_own h2⟩
/-- an operation whose result is described -/
theorem DW_d {R : Nat → World → World → Prop} [ExtR R] {F : Rho → Value → World → Prop} (hX : ∀ r w, A w → (∀ j, td ops k j = true → H r j w) → ∃ v w', X P n ⟨some d, op, t, pos, af, none⟩ (g r) w = .ok (.value v) w' ∧ Ext w w' ∧ F r v w') (hF : ∀ i r v w w', i ≠ k → td ops k i = false → R i w w' → F r v w → F r v w')
    (hi : ∀ r v, F (rset r k v) = F r)
    (hr : DW R P n ops A Fin rest (k + 1) E (fun r => upd (g r) d (r k)) (fun r j w => bif Nat.beq j k then F r (r k) w else H r j w)) : DW R P n ops A Fin (⟨some d, op, t, pos, af, none⟩ :: rest) k (.op (fun r w => F r (r k) w) :: E) g H := by
  refine .op (fun r w hA hH => ⟨rfl, ?_⟩) (fun i r w w' h1 h2 hE h => hF i _ _ _ _ h1 h2 hE h) hr
  obtain ⟨v, w', h1, h2, h3⟩ := hX r w hA hH
  exact Run_val h1 ⟨ExtR.h _ _ _ h2, by rw [rset_self, hi]; exact h3⟩
end

theorem calls_own {w0 : World} {id : FuncId} {vl : Array Value} {e0 : TypeId} {size m : Nat} {xs : List Value} (hA : Ext w0 w) (h : Calls P id vl w fun e w' => ∃ q, e = .returned q ∧ Ext w w' ∧ w'.ownsRow w.heap.size e0 size q m xs) :
    Calls P id vl w fun e w' => ∃ q, e = .returned q ∧ Ext w w' ∧ OwnF w0 e0 size q m xs w' :=
  Calls.mono h fun _ _ ⟨q, h1, h2, h3⟩ => ⟨q, h1, h2, w.heap.size, hA.size, h3⟩

/-! a region that also stores a whole variable of several cells ahead of its end -/
/-- all that was stays, but for the block g, that holds the old cells or the new ones -/
def RB (g : Nat) (T : TypeId) (o l : List Value) (_ : Nat) (w w' : World) : Prop := w.grownBy w' (some g) ∧ (Blk w g T l → Blk w' g T l) ∧ (Blk w g T o → Blk w' g T o ∨ Blk w' g T l)
theorem RB.refl (g : Nat) (T : TypeId) (o l : List Value) (i : Nat) (w : World) : RB g T o l i w w := ⟨⟨rfl, rfl, rfl, Nat.le_refl _, fun _ _ _ => rfl⟩, id, .inl⟩
instance {g : Nat} {T : TypeId} {o l : List Value} : ExtR (RB g T o l) := ⟨fun _ _ _ E => ⟨E.row _, fun h => h.ext E, fun h => .inl (h.ext E)⟩⟩
def AB (g : Nat) (T : TypeId) (o l : List Value) (w0 w : World) : Prop := w0.grownBy w (some g) ∧ (Blk w g T o ∨ Blk w g T l)
theorem AB.step {g : Nat} {T : TypeId} {o l : List Value} {w0 : World} : ∀ i w w', RB g T o l i w w' → AB g T o l w0 w → AB g T o l w0 w' :=
  fun _ _ _ ⟨h1, h2, h3⟩ ⟨k1, k2⟩ => ⟨grown_trans' k1 h1 (fun _ h => .inl h), k2.elim h3 fun h => .inr (h2 h)⟩
theorem AB.new {g : Nat} {T : TypeId} {o l : List Value} {w0 : World} (h : Blk w0 g T o) : AB g T o l w0 w0.drew := ⟨(Ext.drew w0).row _, .inl (h.ext (Ext.drew w0))⟩
section
variable {A : World → Prop} {Fin : List Oper → (Rho → Fr) → (Rho → Nat → World → Prop) → Prop} {k : Nat} {E : List Ent} {g : Rho → Fr} {H : Rho → Nat → World → Prop} {t : TypeId} {pos : String} {af : Array Edge} {w0 : World} {ty : TypeId} {x y : Operand}
theorem DW_store {b size : Nat} {T : TypeId} {o l : List Value} [TAgg P ty size] (hx : ∀ r, ev n (g r) x = .pointer (some ⟨b, 0, none⟩)) (hy : ∀ r, ev n (g r) y = .agg l.toArray) (ho : o.length = size) (hl : l.length = size) (h1 : ∀ v ∈ l, v.oneCell' = true)
    (hr : DW (RB b T o l) P n ops (AB b T o l w0) Fin rest (k + 1) E g (fun r j w => bif Nat.beq j k then Blk w b T l else H r j w)) : DW (RB b T o l) P n ops (AB b T o l w0) Fin (⟨none, .store ty x y, t, pos, af, none⟩ :: rest) k (.op (fun _ w => Blk w b T l) :: E) g H := by
  refine .op (fun r w hA hH => ⟨rfl, ?_⟩) (fun _ _ _ _ _ _ hE h => hE.2.1 h) hr
  have key : ∀ c : List Value, c.length = size → Blk w b T c → Run P n ⟨none, .store ty x y, t, pos, af, none⟩ (g r) w fun v w' => RB b T o l k w w' ∧ Blk w' b T l := by
    intro c hc B
    have hX := X_storeA (P := P) (n := n) (f := g r) (w := w) (d := none) (t := t) (pos := pos) (af := af) (g := none) (ty := ty) (hx r) (hy r) hl h1 B (o := 0) (by omega)
    have hcs : c.take 0 ++ l ++ c.drop (0 + size) = l := by rw [List.drop_eq_nil_of_le (by omega)]; simp
    rw [hcs] at hX
    have B' := B.setRow l
    exact Run_skip hX ⟨⟨grown_setRow _ _ _, fun _ => B', fun _ => .inr B'⟩, B'⟩
  exact hA.2.elim (key o ho) (key l hl)
end
end Go.Proofs.K

/- A range over a function: the loop's rule, what is asked of the iterator, and a yield. -/
namespace Go.Proofs.K
open Go.RowKit Go.Shelf
variable {P : Program} {n : NN} {Q : Exit → Fr → World → Prop} {f : Fr} {w : World} {ops : Array Oper} {rest : List Oper}

/-- a step of the loop's book-keeping, at or beyond B -/
def Book (B : Nat) (w w' : World) : Prop := ∃ row, w.grownBy w' row ∧ ∀ r, row = some r → B ≤ r ∧ ∃ o : Obj, w.heap[r]? = some o ∧ o.isCells = false
theorem Book.put {B l : Nat} {w : World} {o : Obj} (o' : Obj) (hl : B ≤ l) (h : w.heap[l]? = some o) (hc : o.isCells = false) : Book B w (w.putObj l o') :=
  ⟨some l, grownBy_putObj' w l o', fun r e => by cases e; exact ⟨hl, o, h, hc⟩⟩
theorem Book.alloc {B : Nat} (w : World) (o : Obj) : Book B w (w.alloc o) := ⟨none, World.grownBy_alloc w o none, fun r e => by cases e⟩
def yieldV (l : Nat) : Value := .func (.yield l) #[] #[]
/-- what an iterator is asked: it yields in the states 0, 1, ..; it ends where Fin holds, or a yield has said no -/
def Iter (P : Program) (gf : FuncId) (lb : Array Value) (w : World) (Pre : Nat → Value → World → Prop) (Kp It Ix : World → World → Prop) (Fin : Nat → World → Prop) : Prop :=
  ∀ (l : Nat) (J : Nat → World → Prop) (Jx : World → Prop) (w1 : World), Ext w w1 →
    (∀ i a b, J i a → It a b → J i b) → (∀ a b, Jx a → Ix a b → Jx b) →
    (∀ i v a, J i a → Pre i v a → YieldAt Fence.wide 8 P l #[v] a fun e b => (e = .returned (.bool true) ∧ J (i + 1) b ∧ Kp a b) ∨ (e = .returned (.bool false) ∧ Jx b)) →
    J 0 w1 → Calls P gf (#[yieldV l] ++ lb) w1 fun e b => (∃ v, e = .returned v) ∧ ((∃ i, Fin i b ∧ J i b) ∨ Jx b)
/-- how a round is left -/
def roundQ (id B : Nat) (N S : World → Prop) (w : World) : Exit → Fr → World → Prop
  | .normal, _, w' => KeepsFrom B w w' ∧ N w'
  | .exit id', _, w' => id' = id ∧ KeepsFrom B w w' ∧ S w'
  | _, _, _ => False

theorem room_none {F : Fence} (h : F.depth = none) (m : Nat) : F.room m := by simp [Fence.room, h]
theorem wpIn_any {F : Fence} (h : F.depth = none) {c : Code} {Q' : Exit → Act → World → Prop} {a : Act} {m m' : Nat} (hw : c.wpIn F m P Q' a w) : c.wpIn F m' P Q' a w := fun b k cs hro hb _ => hw b k cs hro hb (room_none h _)
theorem n9 {f : FuncId} {args : Array Value} {R : Ending → World → Prop} {m : Nat} : (Calls P f args w R → CallsIn (NN.fen ⟨0, [], none⟩) m P f args w R) ∧ True := ⟨fun h => NN.calls ⟨0, [], none⟩ m h, trivial⟩
/-- a statement and the rest of a function's body -/
def TB (P : Program) (n : NN) (fn : Func) (R : Ending → World → Prop) (b d : Code) (f : Fr) (w : World) : Prop := b.wpIn n.fen 9 P (Exit.then (d.wpIn n.fen 9 P (bodyPostM n.fen 9 P fn R)) (bodyPostM n.fen 9 P fn R)) (act n f) w
theorem T_of_TB {fn : Func} {R : Ending → World → Prop} {b d : Code} (h : TB P n fn R b d f w) : T P n fn R (.seq b d) f w := wpIn_seq h
theorem T_seq2 {fn : Func} {R : Ending → World → Prop} {a b d : Code} (h : W P n a (thenQ (TB P n fn R b d) (endQ P n fn R)) f w) : T P n fn R (.seq (.seq a b) d) f w := by
  refine wpIn_seq (wpIn_seq (wpIn_mono h ?_))
  rintro e a w ⟨f, rfl, hq⟩
  cases e with
  | normal => exact hq
  | ret => exact endQ_post .ret _ _ ⟨f, rfl, hq⟩
  | panic ch => exact hq.elim
  | outgrown => exact hq
  | exit id => exact hq.elim
  | goto l => exact hq.elim
theorem T_range {k id : Nat} {fn : Func} {R : Ending → World → Prop} {g : Operand} {p : Tmp} {assign body d : Code} {gf : FuncId} {lb : Array Value}
    (hg : ev ⟨k, [], none⟩ f g = .func (.func gf) #[] lb) (he : Enters P gf)
    {Pre : Nat → Value → World → Prop} {Kp It Ix : World → World → Prop} {Fin : Nat → World → Prop} (hit : Iter P gf lb w Pre Kp It Ix Fin)
    (hKt : ∀ a b c, Kp a b → Kp b c → Kp a c) (hKb : ∀ a l o o', w.heap.size ≤ l → a.heap[l]? = some o → o.isCells = false → Kp a (a.putObj l o'))
    (hIt : ∀ a b, It a b → KeepsFrom w.heap.size a b) (hIx : ∀ a b, Ix a b → KeepsFrom w.heap.size a b)
    (Inv : Nat → World → Prop) (Stop : World → Prop) (hI : ∀ i a b, Inv i a → It a b → Inv i b) (hIb : ∀ i a b, Inv i a → Book w.heap.size a b → Inv i b)
    (hS : ∀ a b, Stop a → Ix a b → Stop b) (hSb : ∀ a b, Stop a → Book w.heap.size a b → Stop b) (hPb : ∀ i v a b, Pre i v a → Book w.heap.size a b → Pre i v b) (hFb : ∀ i a b, Fin i a → Book w.heap.size a b → Fin i b)
    (h0 : Inv 0 w) (gv : Fr → Value → Fr)
    (hassign : ∀ l v a, W P ⟨k, [], some l⟩ assign (fun e f' b => e = .normal ∧ f' = gv f v ∧ b = a) (upd f p v) a)
    (hbody : ∀ l i v a, Inv i a → Pre i v a → W P ⟨k, [], some l⟩ body (roundQ id w.heap.size (fun b => Kp a b ∧ Inv (i + 1) b) Stop a) (gv f v) a)
    (hdone : ∀ D b, w.heap.size ≤ D → ((∃ i, Fin i b ∧ Inv i b) ∨ Stop b) → b.heap[D]? = some (.deferred (some [])) → T P ⟨k, [{ target := .collected D, args := #[] }], none⟩ fn R d f b) :
    TB P ⟨k, [], none⟩ fn R (.block id (.rangeFunc g #[p] assign body)) d f w := by
  refine wpIn_block (wpIn_rangeFunc fun fn' hfn => ?_)
  obtain ⟨rec, hrec⟩ : ∃ rec : LoopState → Option Code → Loop, rec = fun st pe => { state := st, pending := pe, fn := fn', tmps := arr ⟨k, [], none⟩ f, params := #[p], assign, body, defers := w.heap.size } := ⟨_, rfl⟩
  obtain ⟨wl, hwl⟩ : ∃ wl, (w.alloc (.deferred (some []))).alloc (.loop (rec .ready none)) = wl := ⟨_, rfl⟩
  have hL1 : wl.heap[w.heap.size + 1]? = some (.loop (rec .ready none)) := by
    rw [← hwl]; have := World.alloc_heap_new (w.alloc (.deferred (some []))) (.loop (rec .ready none)); rwa [World.size_alloc] at this
  have hK1 : wl.heap[w.heap.size]? = some (.deferred (some [])) := by
    rw [← hwl]; exact (Below.heap_alloc _ _ _ (by simp)).trans (World.alloc_heap_new w _)
  have hE1 : Ext w wl := by rw [← hwl]; exact (grown_alloc w _).trans (grown_alloc _ _)
  have hI1 : Inv 0 wl := by rw [← hwl]; exact hIb _ _ _ (hIb _ _ _ h0 (Book.alloc _ _)) (Book.alloc _ _)
  refine ⟨w.heap.size + 1, [{ target := .collected w.heap.size, args := #[] }], wl, { target := .fn (.func gf) lb, args := #[yieldV (w.heap.size + 1)] }, wl, gf, #[yieldV (w.heap.size + 1)] ++ lb, wl, ?_, ?_, ?_, ?_, fun _ => by omega, ?_⟩
  · rw [← hwl, hrec]; exact run_enterLoop_outer _ _ _ _ _
  · rw [act_eval]
    simp only [resolve, hg]
    simp [yieldV, ev, go_sem]
  · exact fun _ _ => trivial
  · exact he _ _
  · have heq : ∀ st pe, (rec st pe).fn = fn' ∧ (rec st pe).tmps = arr ⟨k, [], none⟩ f ∧ (rec st pe).params = #[p] ∧ (rec st pe).assign = assign ∧ (rec st pe).body = body ∧ (rec st pe).state = st ∧ (rec st pe).pending = pe := fun st pe => by rw [hrec]; exact ⟨rfl, rfl, rfl, rfl, rfl, rfl, rfl⟩
    have hst : ∀ st pe st', ({ rec st pe with state := st' } : Loop) = rec st' pe := fun st pe st' => by rw [hrec]
    have hst2 : ∀ st pe st' pe', ({ rec st pe with state := st', pending := pe' } : Loop) = rec st' pe' := fun st pe st' pe' => by rw [hrec]
    have hlb : w.heap.size ≤ w.heap.size + 1 := by omega
    refine n9.1 ((hit (w.heap.size + 1)
      (fun i a => Inv i a ∧ a.heap[w.heap.size + 1]? = some (.loop (rec .ready none)) ∧ a.heap[w.heap.size]? = some (.deferred (some [])))
      (fun a => Stop a ∧ a.heap[w.heap.size + 1]? = some (.loop (rec .done (some (.exit id)))) ∧ a.heap[w.heap.size]? = some (.deferred (some [])))
      wl hE1
      (fun i a b h hi => ⟨hI i a b h.1 hi, (hIt a b hi).same _ _ hlb h.2.1 rfl, (hIt a b hi).same _ _ (Nat.le_refl _) h.2.2 rfl⟩)
      (fun a b h hi => ⟨hS a b h.1 hi, (hIx a b hi).same _ _ hlb h.2.1 rfl, (hIx a b hi).same _ _ (Nat.le_refl _) h.2.2 rfl⟩)
      ?_ ⟨hI1, hL1, hK1⟩).mono ?_)
    · rintro i v a ⟨hi, hl, hk⟩ hp
      have hlt : w.heap.size + 1 < a.heap.size := (Array.getElem?_eq_some_iff.1 hl).1
      have hy := run_yield (P := P) (args := #[v]) hl (by rw [(heq _ _).2.2.1]; rfl)
      rw [(heq _ _).1, (heq _ _).2.1, (heq _ _).2.2.1, (heq _ _).2.2.2.1, (heq _ _).2.2.2.2.1] at hy
      refine ⟨fn', _, assign, body, hy, roundIn_of_wpIn hfn ?_⟩
      have htm : (#[p].zip #[v]).foldl (fun (t : Array Value) (q, a) => t.setIfInBounds q a) (arr ⟨k, [], none⟩ f) = arr ⟨k, [], some (w.heap.size + 1)⟩ (upd f p v) := by
        rw [← arr_upd]; simp; rfl
      rw [htm]
      refine wpIn_any (m := 9) rfl (wpIn_mono (hassign (w.heap.size + 1) v a) ?_)
      rintro e a1 w1 ⟨f', rfl, rfl, rfl, rfl⟩
      refine ⟨_, run_beginRound hl (heq _ _).2.2.2.2.2.1, ?_⟩
      rw [hst]
      have hbk : Book w.heap.size w1 (w1.putObj (w.heap.size + 1) (.loop (rec .busy none))) := Book.put _ hlb hl rfl
      have hl2 : (w1.putObj (w.heap.size + 1) (.loop (rec .busy none))).heap[w.heap.size + 1]? = some (.loop (rec .busy none)) := World.putObj_heap_same hlt
      have hk2 : (w1.putObj (w.heap.size + 1) (.loop (rec .busy none))).heap[w.heap.size]? = some (.deferred (some [])) := (World.putObj_heap_other (by omega)).trans hk
      have hw2 := hKb w1 (w.heap.size + 1) _ (.loop (rec .busy none)) hlb hl rfl
      refine wpIn_any (m := 9) rfl (wpIn_mono (hbody (w.heap.size + 1) i v _ (hIb _ _ _ hi hbk) (hPb _ _ _ _ hp hbk)) ?_)
      have fin : ∀ (jump : Option Code) (c : World), KeepsFrom w.heap.size (w1.putObj (w.heap.size + 1) (.loop (rec .busy none))) c →
          (Instr.endRound (w.heap.size + 1) jump).run P c = .ok (.bool jump.isNone) (c.putObj (w.heap.size + 1) (.loop (rec (if jump.isNone then .ready else .done) jump))) ∧
          c.heap[w.heap.size + 1]? = some (.loop (rec .busy none)) ∧
          (c.putObj (w.heap.size + 1) (.loop (rec (if jump.isNone then .ready else .done) jump))).heap[w.heap.size + 1]? = some (.loop (rec (if jump.isNone then .ready else .done) jump)) ∧
          (c.putObj (w.heap.size + 1) (.loop (rec (if jump.isNone then .ready else .done) jump))).heap[w.heap.size]? = some (.deferred (some [])) := fun jump c hc => by
        have hl3 := hc.same _ _ hlb hl2 rfl
        have := run_endRound (P := P) jump hl3
        rw [hst2] at this
        exact ⟨this, hl3, World.putObj_heap_same (Array.getElem?_eq_some_iff.1 hl3).1, (World.putObj_heap_other (by omega)).trans (hc.same _ _ (Nat.le_refl _) hk2 rfl)⟩
      rintro e a3 w3 ⟨f3, rfl, hq⟩
      cases e with
      | normal =>
        obtain ⟨hc, hkp, hi3⟩ := hq
        obtain ⟨hr, hl3, hl4, hk4⟩ := fin none w3 hc
        exact ⟨_, _, hr, .inl ⟨rfl, ⟨hIb _ _ _ hi3 (Book.put _ hlb hl3 rfl), hl4, hk4⟩, hKt _ _ _ (hKt _ _ _ hw2 hkp) (hKb _ _ _ _ hlb hl3 rfl)⟩⟩
      | exit id' =>
        obtain ⟨rfl, hc, hs3⟩ := hq
        obtain ⟨hr, hl3, hl4, hk4⟩ := fin (some (.exit id')) w3 hc
        exact ⟨_, _, hr, .inr ⟨rfl, hSb _ _ hs3 (Book.put _ hlb hl3 rfl), hl4, hk4⟩⟩
      | ret => exact hq.elim
      | goto t => exact hq.elim
      | panic ch => exact hq.elim
      | outgrown => exact hq.elim
    · rintro e b ⟨⟨v, rfl⟩, h⟩
      rcases h with ⟨i, hf, hi, hl, hk⟩ | ⟨hs, hl, hk⟩
      · refine ⟨none, _, by have := run_endLoop (P := P) hl (by rw [(heq _ _).2.2.2.2.2.1]; simp); rw [hst, (heq _ _).2.2.2.2.2.2] at this; exact this, ?_⟩
        have hbk : Book w.heap.size b (b.putObj (w.heap.size + 1) (.loop (rec .exhausted none))) := Book.put _ hlb hl rfl
        exact hdone w.heap.size _ (Nat.le_refl _) (.inl ⟨i, hFb _ _ _ hf hbk, hIb _ _ _ hi hbk⟩) ((World.putObj_heap_other (by omega)).trans hk)
      · refine ⟨some (.exit id), _, by have := run_endLoop (P := P) hl (by rw [(heq _ _).2.2.2.2.2.1]; simp); rw [hst, (heq _ _).2.2.2.2.2.2] at this; exact this, ?_⟩
        have hbk : Book w.heap.size b (b.putObj (w.heap.size + 1) (.loop (rec .exhausted (some (.exit id))))) := Book.put _ hlb hl rfl
        refine wpIn_exit ?_
        simp only [Exit.inBlock, if_true]
        exact hdone w.heap.size _ (Nat.le_refl _) (.inr (hSb _ _ hs hbk)) ((World.putObj_heap_other (by omega)).trans hk)
section
variable {d : Tmp} {t : TypeId} {pos : String} {af : Array Edge} {x : Operand}
theorem L_yield {l : Nat} {asl : List Operand} {vl : List Value} {tys : Array TypeId} {R : Ending → World → Prop} (hn : n.ro = none) (hx : ev n f x = yieldV l) (ha : asl.map (ev n f) = vl) (hY : YieldAt Fence.wide 8 P l vl.toArray w R)
    (h : ∀ e w', R e w' → ∃ v, e = .returned v ∧ L P n ops Q rest (upd f d v) w') : L P n ops Q (⟨some d, .call ⟨.value x, asl.toArray, tys⟩, t, pos, af, none⟩ :: rest) f w := by
  obtain ⟨fn, tm, asg, body, hy, hR⟩ := hY
  have hX : X P n ⟨some d, .call ⟨.value x, asl.toArray, tys⟩, t, pos, af, none⟩ f w = .ok (.round l fn tm asg body) w := by
    subst ha
    simp [X, execOp, resolve, hx, yieldV, Deferred.ofValue, invoke, hy]
  refine L_run rfl ?_
  unfold Run
  rw [hX]
  refine ⟨hn, hR.mono fun e w' hh => ?_⟩
  obtain ⟨v, rfl, hk⟩ := h e w' hh
  exact hk
end
section
variable {d : Option Tmp} {t ty e : TypeId} {pos : String} {af : Array Edge} {g : Option (Nat × Bool)} {x y : Operand} {k : Nat} {A : World → Prop} {Fin : List Oper → (Rho → Fr) → (Rho → Nat → World → Prop) → Prop} {E : List Ent} {gf : Rho → Fr} {H : Rho → Nat → World → Prop} {R : Nat → World → World → Prop} {gd : Option (Nat × Bool)}
theorem X_nil {a : Addr} (hx : ev n f x = .pointer (some a)) : X P n ⟨d, .nilCheck x, t, pos, af, g⟩ f w = .ok (.value (.pointer (some a))) w := by
  simp [X, execOp, hx]
theorem i_nil (h : L P n ops Q (⟨d, .nilCheck x, t, pos, af, g⟩ :: rest) f w) : L P n ops Q (⟨d, .nilCheck x, t, pos, af, g⟩ :: rest) f w := h
theorem d_nil (h : DW R P n ops A Fin (⟨d, .nilCheck x, t, pos, af, gd⟩ :: rest) k E gf H) : DW R P n ops A Fin (⟨d, .nilCheck x, t, pos, af, gd⟩ :: rest) k E gf H := h
theorem X_indexVI {len i : Nat} {kk ki : IntKind} [hs : TArr P ty len e] [h1 : TOne P e] {l : List Nat} (hx : ev n f x = .agg (ints kk l).toArray) (hy : ev n f y = .int ki (i : Int)) (h : i < len) (hl : l.length = len) :
    X P n ⟨d, .index ty x y, t, pos, af, g⟩ f w = .ok (.value (.int kk ((l.getD i 0 : Nat) : Int))) w := X_indexV hx hy h (ints_get (by omega))
theorem i_copy {asl : Array Operand} {tys : Array TypeId} (h : L P n ops Q (⟨d, .call ⟨.builtin .copy, asl, tys⟩, t, pos, af, g⟩ :: rest) f w) : L P n ops Q (⟨d, .call ⟨.builtin .copy, asl, tys⟩, t, pos, af, g⟩ :: rest) f w := h
end
section
variable {d : Tmp} {t ty ty2 e : TypeId} {pos : String} {af : Array Edge} {x y : Operand}
/-- copy into a block of the call's own -/
theorem L_copy {b o b2 o2 c c2 dl sl m : Nat} {T : TypeId} {cur cs : List Value} [ht : TSlice P ty e] [hz : TSz P e 1] (hx : ev n f x = .slice (some ⟨b, o, none⟩) dl c) (hy : ev n f y = .slice (some ⟨b2, o2, none⟩) sl c2) (hB : Blk w b T cur) (hm : m = Nat.min sl dl) (hl : cs.length = m)
    (hsrc : w.rangeAt b2 o2 cs) (hfit : o + m ≤ cur.length) (h1 : ∀ v ∈ cs, v.oneCell' = true)
    (h : ∀ w', Blk w' b T (cur.take o ++ cs ++ cur.drop (o + m)) → w.grownBy w' (some b) → w'.heap.size = w.heap.size → L P n ops Q rest (upd f d (.int .i64 (m : Nat))) w') :
    L P n ops Q (⟨some d, .call ⟨.builtin .copy, #[x, y], #[ty, ty2]⟩, t, pos, af, none⟩ :: rest) f w := by
  subst hl
  have hrun := run_copy_row (P := P) w ty ty2 t e b o dl c ⟨b2, o2, none⟩ sl c2 cur.toArray T cs ht.h hz.h hB hm (fun j v hj => by rw [Addr.add_mid]; exact hsrc j v hj) (by simpa using hfit) h1
  have hX : X P n ⟨some d, .call ⟨.builtin .copy, #[x, y], #[ty, ty2]⟩, t, pos, af, none⟩ f w = .ok (.value (.int .i64 (cs.length : Nat))) (w.setRow b (cur.take o ++ cs ++ cur.drop (o + cs.length)).toArray) := by
    simp [X, execOp, resolve, invoke, builtin, hx, hy, hrun, goInt]
  exact Ls hX (h _ (hB.setRow _) (grown_setRow _ _ _) (by simp [World.setRow]))
end
section
variable {d : Option Tmp} {t ty e : TypeId} {pos : String} {af : Array Edge} {g : Option (Nat × Bool)} {x : Operand}
/-- a[i:] and a[:j] and a[:] of an array behind a pointer -/
theorem X_arrFrom {size m : Nat} [hs : TArr P ty m e] [hz : TSz P e size] {b o : Nat} {a : Operand} {ka : IntKind} {ia : Int} (i : Nat) (hx : ev n f x = .pointer (some ⟨b, o, none⟩)) (ha : ev n f a = .int ka ia) (hi : ia = (i : Int)) (him : i < m) :
    X P n ⟨d, .slice ty x (some a) none none, t, pos, af, g⟩ f w = .ok (.value (.slice (some ⟨b, o + i * size, none⟩) (m - i) (m - i))) w := by
  subst hi
  have := X_sliceArr (P := P) (n := n) (f := f) (w := w) (d := d) (t := t) (ty := ty) (pos := pos) (af := af) (g := g) (lo := some a) (hi := none) (j := m) hx ⟨ka, ha⟩ rfl (Nat.le_of_lt him) (Nat.le_refl _)
  rwa [if_neg (by omega)] at this
theorem X_arrTo {size m : Nat} [hs : TArr P ty m e] [hz : TSz P e size] {b o : Nat} {a : Operand} {ka : IntKind} {ja : Int} (j : Nat) (hx : ev n f x = .pointer (some ⟨b, o, none⟩)) (ha : ev n f a = .int ka ja) (hj : ja = (j : Int)) (hjm : j ≤ m) (hm : 0 < m) :
    X P n ⟨d, .slice ty x none (some a) none, t, pos, af, g⟩ f w = .ok (.value (.slice (some ⟨b, o, none⟩) j m)) w := by
  subst hj
  have := X_sliceArr (P := P) (n := n) (f := f) (w := w) (d := d) (t := t) (ty := ty) (pos := pos) (af := af) (g := g) (lo := none) (hi := some a) (i := 0) hx rfl ⟨ka, ha⟩ (Nat.zero_le _) hjm
  rw [if_neg (by omega)] at this
  simpa using this
theorem X_arrAll {size m : Nat} [hs : TArr P ty m e] [hz : TSz P e size] {b o : Nat} (hx : ev n f x = .pointer (some ⟨b, o, none⟩)) (hm : 0 < m) :
    X P n ⟨d, .slice ty x none none none, t, pos, af, g⟩ f w = .ok (.value (.slice (some ⟨b, o, none⟩) m m)) w := by
  have := X_sliceArr (P := P) (n := n) (f := f) (w := w) (d := d) (t := t) (ty := ty) (pos := pos) (af := af) (g := g) (lo := none) (hi := none) (i := 0) (j := m) hx rfl rfl (Nat.zero_le _) (Nat.le_refl _)
  rw [if_neg (by omega)] at this
  simpa using this
end
section
variable {d : Option Tmp} {t ty e : TypeId} {pos : String} {af : Array Edge} {g : Option (Nat × Bool)} {x y : Operand}
theorem X_eqlNil [h : TSlice P ty e] {A : Option Addr} {m c : Nat} (hx : ev n f x = .slice A m c) (hy : ev n f y = .slice none 0 0) : X P n ⟨d, .binOp .eql ty x y ty, t, pos, af, g⟩ f w = .ok (.value (.bool A.isNone)) w := by
  have hb : (binOp .eql ty (.slice A m c) (.slice none 0 0)).run P w = .ok (.bool A.isNone) w := by
    simp only [binOp]
    simp [run_equal_slice_nil w ty e A m c h.h]
  simp only [X, execOp, hx, hy, eqGuard_at_slice]
  simp [hb, Result.andThen]
theorem X_cap [h : TSlice P ty e] {A : Option Addr} {m c : Nat} (hx : ev n f x = .slice A m c) : X P n ⟨d, .call ⟨.builtin .cap, #[x], #[ty]⟩, t, pos, af, g⟩ f w = .ok (.value (.int .i64 (c : Nat))) w := by
  simp [X, execOp, resolve, invoke, builtin, hx, Builtin.cap_, run_underlying h.h, goInt]
end

/-- every block of cells but g stays -/
structure KeepBut (g : Nat) (a b : World) : Prop where
  size : a.heap.size ≤ b.heap.size
  same : ∀ k c t fz, k ≠ g → a.heap[k]? = some (.cells c t fz) → b.heap[k]? = some (.cells c t fz)
theorem KeepBut.trans {g : Nat} {a b c : World} (h : KeepBut g a b) (k : KeepBut g b c) : KeepBut g a c := ⟨Nat.le_trans h.size k.size, fun _ _ _ _ hj hx => k.same _ _ _ _ hj (h.same _ _ _ _ hj hx)⟩
theorem KeepBut.of {g : Nat} {a b : World} {row : Option Nat} (h : a.grownBy b row) (hr : ∀ r, row = some r → r = g ∨ ∃ o : Obj, a.heap[r]? = some o ∧ o.isCells = false) : KeepBut g a b :=
  ⟨h.size, fun k c t fz hk hc => (h.block k (Array.getElem?_eq_some_iff.1 hc).1 (fun e => by
    rcases hr k e.symm with rfl | ⟨o, ho, hn⟩
    · exact hk rfl
    · rw [hc] at ho; cases ho; cases hn)).trans hc⟩
theorem Book.keep {B g : Nat} {a b : World} (h : Book B a b) : KeepBut g a b := by
  obtain ⟨row, hg, hr⟩ := h
  exact KeepBut.of hg fun r e => .inr (hr r e).2
theorem KeepBut.put {g l : Nat} {a : World} {o : Obj} (o' : Obj) (h : a.heap[l]? = some o) (hc : o.isCells = false) : KeepBut g a (a.putObj l o') :=
  KeepBut.of (grownBy_putObj' a l o') fun r e => by cases e; exact .inr ⟨o, h, hc⟩
theorem KeepBut.blk {g k : Nat} {a b : World} {T : TypeId} {cs : List Value} (h : KeepBut g a b) (B : Blk a k T cs) (hk : k ≠ g) : Blk b k T cs := h.same _ _ _ _ hk B
theorem cells_of_cell {w : World} {a : Addr} {v : Value} (h : w.cell? a = some v) : ∃ c t fz, w.heap[a.block]? = some (.cells c t fz) := by
  unfold World.cell? at h
  split at h
  · rename_i c t fz he; exact ⟨c, t, fz, he⟩
  · cases h
theorem KeepBut.cell {g : Nat} {a b : World} {p : Addr} {v : Value} (h : KeepBut g a b) (hp : p.block ≠ g) (hv : a.cell? p = some v) : b.cell? p = some v := by
  obtain ⟨c, t, fz, hc⟩ := cells_of_cell hv
  unfold World.cell? at hv ⊢
  rw [h.same _ _ _ _ hp hc]
  rw [hc] at hv
  exact hv
theorem KeepBut.row {g lo hi size m : Nat} {a b : World} {v : Value} {xs : List Value} (h : KeepBut g a b) (hr : Row a lo hi size v m xs) (hg : ¬ (lo ≤ g ∧ g < hi)) : Row b lo hi size v m xs := by
  obtain ⟨hl, A, c, he, hc, hcm, hn⟩ := hr
  refine ⟨hl, A, c, he, hc, hcm, fun h0 => ?_⟩
  obtain ⟨q, o, hA, h1, h2, h3⟩ := hn h0
  exact ⟨q, o, hA, h1, h2, fun j u hu => h.cell (fun e => hg (by simp only at e; omega)) (h3 j u hu)⟩
theorem KeepBut.own {g base size m : Nat} {a b : World} {e : TypeId} {v : Value} {xs : List Value} (h : KeepBut g a b) (ho : a.ownsRow base e size v m xs) (hg : g < base) : b.ownsRow base e size v m xs := by
  refine ⟨ho.1, ?_⟩
  rcases ho.2 with hn | ⟨q, cap, cur, hv, hb, hq, rest⟩
  · exact .inl hn
  · exact .inr ⟨q, cap, cur, hv, hb, h.same _ _ _ _ (by omega) hq, rest⟩
/-- a row lies in blocks that are there -/
theorem Row.tight {w : World} {lo hi m : Nat} {v : Value} {xs : List Value} (h : Row w lo hi 1 v m xs) : Row w lo w.heap.size 1 v m xs := by
  obtain ⟨hl, A, c, he, hc, hcm, hn⟩ := h
  refine ⟨hl, A, c, he, hc, hcm, fun h0 => ?_⟩
  obtain ⟨q, o, hA, h1, h2, h3⟩ := hn h0
  refine ⟨q, o, hA, h1, ?_, h3⟩
  have hx : ∃ u, xs[0]? = some u := ⟨xs[0]'(by omega), List.getElem?_eq_getElem (by omega)⟩
  obtain ⟨u, hu⟩ := hx
  obtain ⟨c, t, fz, hcc⟩ := cells_of_cell (h3 0 u hu)
  exact (Array.getElem?_eq_some_iff.1 hcc).1
section
variable {d : Tmp} {t ty ty2 e : TypeId} {pos : String} {af : Array Edge} {x y : Operand} {k : IntKind}
/-- append(nil, make([]T, m)...) -/
theorem L_appendZ {m : Nat} {z : Value} [ht : TSlice P ty e] [hu : TInt P ty2 k] [hz : TInfo P e 1 1 z] (hzs : z.cells.size = 1) (hx : ev n f x = .slice none 0 0) (hy : ev n f y = .int .i64 (m : Nat)) (hm0 : 0 < m) (hm : m ≤ 1000000000)
    (h : ∀ c w', Ext w w' → m ≤ c → c ≤ maxLen → (∃ xs : List Value, xs.length = m ∧ w'.ownsRow w.heap.size e 1 (.slice (some ⟨w.heap.size, 0, none⟩) m c) m xs) → L P n ops Q rest (upd f d (.slice (some ⟨w.heap.size, 0, none⟩) m c)) w') :
    L P n ops Q (⟨some d, .call ⟨.builtin .append, #[x, y], #[ty, ty2]⟩, t, pos, af, none⟩ :: rest) f w := by
  obtain ⟨i, hi', h0, h2, h3⟩ := info_parts hz.h
  have hrun := Lib.run_append_nil_zeros (P := P) w ty ty2 t e i z .i64 k ht.h hu.h hi' h0 m hm0 (by omega) (by omega) (by rw [h3]; omega)
  have hge := grownCap_ge w m 0 e
  have hcm := grownCap_le_maxLen w m 0 e (by unfold maxLen; omega)
  refine Ls (X_of_run hx hy hrun) (h _ _ ⟨rfl, rfl, rfl, by simp, fun j hj _ => heap_alloc_old w.drew _ hj⟩ hge hcm ⟨(Builtin.zeroCells z.cells m).toList, by simp [size_zeroCells, hzs], by simp [size_zeroCells, hzs], .inr ⟨w.heap.size, _, _, rfl, Nat.le_refl _, heap_alloc_new w.drew _, hge, hcm, ?_, ?_⟩⟩)
  · simp only [Array.size_append, size_zeroCells, hzs]
    omega
  · rw [Array.toList_append, List.take_left' (by simp [size_zeroCells, hzs])]
end
/-! cells that are known, in a block of which no more is said (a package-level variable) -/
def Rng (w : World) (k : Nat) (cs : List Value) : Prop := w.rangeAt k 0 cs
theorem Rng.ext {w w' : World} {k : Nat} {cs : List Value} (h : Rng w k cs) (E : Ext w w') : Rng w' k cs := E.range h
theorem Rng.grown {w w' : World} {row : Option Nat} {k : Nat} {cs : List Value} (h : Rng w k cs) (hg : w.grownBy w' row) (hr : row ≠ some k) : Rng w' k cs := fun j v hv => World.grownBy.cell hg (h j v hv) (fun e => hr e.symm)
theorem Rng.cell {w : World} {k j : Nat} {cs : List Value} {v : Value} (h : Rng w k cs) (hv : cs[j]? = some v) : w.cell? ⟨k, j, none⟩ = some v := by have := h j v hv; rwa [Nat.zero_add] at this
theorem Rng.lt {w : World} {k : Nat} {cs : List Value} (h : Rng w k cs) (h0 : 0 < cs.length) : k < w.heap.size := World.block_lt_of_cell? w _ (h.cell (List.getElem?_eq_getElem h0))
section
variable {d : Option Tmp} {t ty : TypeId} {pos : String} {af : Array Edge} {g : Option (Nat × Bool)} {x : Operand} {k : IntKind}
theorem X_ldIg [TOne P ty] {b o : Nat} {l : List Nat} (hx : ev n f x = .pointer (some ⟨b, o, none⟩)) (hB : Rng w b (ints k l)) (hv : o < l.length) : X P n ⟨d, .load ty x, t, pos, af, g⟩ f w = .ok (.value (.int k ((l.getD o 0 : Nat) : Int))) w :=
  X_load1 hx (hB.cell (ints_get hv))
theorem X_ldWg {size : Nat} [hs : TAgg P ty size] {b : Nat} {cs : List Value} (hx : ev n f x = .pointer (some ⟨b, 0, none⟩)) (hB : Rng w b cs) (hl : cs.length = size) : X P n ⟨d, .load ty x, t, pos, af, g⟩ f w = .ok (.value (.agg cs.toArray)) w :=
  X_loadA hx hB hl
end
end Go.Proofs.K

/- The library's SHA-256: rotation and schedule. -/
namespace Go.Proofs.YtemodkjmdalmlaaDoor
open Go.RowKit Go.Proofs.K

theorem rotl_and (m : Nat) (hm : 0 < m ∧ m < 32) : bits BinOp.and IntKind.u64 (IntKind.u64.wrap (-(m : Int))) 31 = ((32 - m : Nat) : Int) := by
  have h : ∀ m : Fin 32, 0 < m.1 → bits BinOp.and IntKind.u64 (IntKind.u64.wrap (-(m.1 : Int))) 31 = ((32 - m.1 : Nat) : Int) := by decide +kernel
  exact h ⟨m, hm.2⟩ hm.1
theorem rotl (x m : Nat) (hx : x < 4294967296) (hm : 0 < m ∧ m < 32) (w : World) :
    Calls Tryd.prog 80 #[.int .u32 (x : Nat), .int .i64 (-(m : Nat))] w fun e w' => e = .returned (.int .u32 ((Sha.rotr x m : Nat) : Int)) ∧ Ext w w' := by
  refine calls_W Tryd.func80 rfl Tryd.ntmps80 rfl ?_
  (refine W_seq ?_; refine W_region ?_; refine Ls (X_assign (v := .int _ _) rfl) ?_; refine L_nil ?_; refine tn ?_; refine W_seq ?_; refine W_region ?_; refine Ls (X_move (v := .int _ _) rfl) ?_; refine Ls (X_conv rfl) ?_; refine Ls (X_and rfl rfl) ?_; refine Ls (X_assign (v := .int _ _) rfl) ?_; refine L_nil ?_; refine tn ?_; refine W_seq ?_; refine W_region ?_; refine Ls (X_move (v := .int _ _) rfl) ?_; refine Ls (X_move (v := .int _ _) rfl) ?_)
  rw [rotl_and m hm]
  (refine Ls (X_shl rfl rfl (by omega)) ?_; refine Ls (X_move (v := .int _ _) rfl) ?_; refine Ls (X_move (v := .int _ _) rfl) ?_; refine Ls (X_sub rfl rfl) ?_)
  have e1 : IntKind.u64.wrap ((32 : Int) - ((32 - m : Nat) : Int)) = ((m : Nat) : Int) := by rw [IntKind.wrap_u64]; omega
  rw [e1]
  (refine Ls (X_shr rfl rfl (by omega)) ?_; refine Ls (X_or rfl rfl) ?_; refine Ls (X_assign (v := .int _ _) rfl) ?_; refine L_nil ?_; refine tn ?_; refine W_ret ?_)
  refine endQ_ret1 rfl rfl (v := .int _ _) rfl ?_
  refine ⟨?_, Ext.refl w⟩
  have e : IntKind.u32.bits = 32 := rfl
  have e2 : (x : Int) * 2 ^ (32 - m) = ((x * 2 ^ (32 - m) : Nat) : Int) := by simp
  rw [e, Nat.min_eq_left (by omega), Nat.min_eq_left (by omega), fdiv_nat, show (((32 - m : Nat) : Int)).toNat = 32 - m by omega, e2, u32_nat, bits_u32_or _ _ (Nat.mod_lt _ (by omega)) (Nat.lt_of_le_of_lt (Nat.div_le_self _ _) hx), Nat.or_comm]
  rfl

/-- the first j bytes of a word, the first one highest -/
def beP (b : List Nat) (i : Nat) : Nat → Nat
  | 0 => 0
  | j + 1 => beP b i j * 256 + b.getD (4 * i + j) 0
theorem beP_four (b : List Nat) (i : Nat) : beP b i 4 = Sha.be32 b i := by
  simp only [beP, Sha.be32, Nat.add_zero]; omega
theorem beP_lt {b : List Nat} (hb : Sha.bytesOk b) (i j : Nat) : beP b i j < 256 ^ j := by
  induction j with
  | zero => simp [beP]
  | succ j ih =>
    have : b.getD (4 * i + j) 0 < 256 := Sha.getD_lt hb (by omega)
    simp only [beP, Nat.pow_succ]; omega
theorem shl8_walk (x b : Nat) (hx : x < 16777216) (hb : b < 256) : bits BinOp.or IntKind.u32 (IntKind.u32.wrap ((x : Int) * 2 ^ min (Int.toNat 8) IntKind.u32.bits)) (IntKind.u32.wrap (b : Int)) = ((x * 256 + b : Nat) : Int) := by
  have e : (x : Int) * 2 ^ min (Int.toNat 8) IntKind.u32.bits = ((x * 256 : Nat) : Int) := by
    rw [show min (Int.toNat 8) IntKind.u32.bits = 8 from rfl]; omega
  rw [e, u32_nat, u32_nat, Nat.mod_eq_of_lt (by omega), Nat.mod_eq_of_lt (by omega), bits_u32_or _ _ (by omega) (by omega)]
  rw [show x * 256 = 2 ^ 8 * x by omega, Nat.two_pow_add_eq_or_of_lt (show b < 2 ^ 8 by omega)]

set_option maxHeartbeats 1000000 in
theorem gschedule (lo hi : Nat) (v : Value) (bl : List Nat) (hlen : bl.length = 64) (hb : Sha.bytesOk bl) (w : World) (hr : Row w lo hi 1 v 64 (ints .u8 bl)) :
    Calls Tryd.prog 79 #[v] w fun e w' => e = .returned (.agg (ints .u32 (Sha.sched bl 64)).toArray) ∧ Ext w w' := by
  obtain ⟨b0, o0, c0, rfl, hc0, _, _, hcell⟩ := hr.at (k := 0) (by omega)
  refine calls_W Tryd.func79 rfl Tryd.ntmps79 rfl ?_
  (refine W_seq ?_; refine W_region ?_)
  refine L_alloc ?_
  intro g2 w1 B2 hg2 E1 hs1
  (refine L_nil ?_; refine tn ?_; refine W_seq ?_; refine W_region ?_)
  refine L_alloc ?_
  intro g3 w2 B3 hg3 E2 hs2
  rw [show (0 : Int) = ((0 : Nat) : Int) from rfl, ints_rep] at B3
  (refine L_nil ?_; refine tn ?_; refine W_seq ?_; refine W_seq ?_; refine W_region ?_; refine Ls (X_move (v := .int _ _) rfl) ?_; refine L_nil ?_; refine tn ?_; refine W_block ?_)
  refine W_loop (fun q f w' => ∃ k, q = 16 - k ∧ k ≤ 16 ∧ f 0 = .slice (some ⟨b0, o0, none⟩) 64 c0 ∧ f 2 = .pointer (some ⟨g2, 0, none⟩) ∧ f 3 = .pointer (some ⟨g3, 0, none⟩) ∧ f 12 = .int .i64 (k : Nat) ∧ Ext w w' ∧
    Blk w' g3 93 (ints .u32 (Sha.sched bl k ++ List.replicate (64 - k) 0)) ∧ Blk w' g2 93 (List.replicate 64 [Value.int IntKind.u32 0]).flatten) 16 ?_ ?_
  · exact ⟨0, rfl, by omega, rfl, rfl, rfl, rfl, E1.trans E2, B3, B2.ext E2⟩
  · rintro q f wr ⟨k, rfl, hk, h0, h2, h3, h12, E, B, BB⟩
    rw [fold h0, fold h2, fold h3, fold h12]
    have hsl : (Sha.sched bl k).length = k := Sha.sched_len bl k
    (refine W_seq ?_; refine W_region ?_; refine Ls (X_lss rfl rfl) ?_; refine L_nil ?_; refine tn ?_; refine W_seq ?_)
    refine W_condp rfl (fun h => ?_) (fun h => ?_)
    · (refine W_skip ?_; refine tn ?_; refine W_seq ?_; refine W_block ?_; refine W_seq ?_; refine W_region ?_; refine Ls (X_move (v := .int _ _) rfl) ?_; refine Ls (X_assign (v := .int _ _) rfl) ?_; refine L_nil ?_; refine tn ?_; refine W_seq ?_; refine W_region ?_; refine Ls (X_move (v := .slice _ _ _) rfl) ?_; refine Ls (X_move (v := .int _ _) rfl) ?_; refine Ls (X_muli rfl rfl (by omega)) ?_; refine Ls (X_move (v := .int _ _) rfl) ?_; refine Ls (X_muli rfl rfl (by omega)) ?_; refine Ls (X_addi rfl rfl (by omega)) ?_)
      have hcut := hr.cut (i := 4 * k) (j := 4 * k + 4) (q := 4) (by omega) (by omega) (by omega)
      refine Ls (X_sliceAB (4 * k) (4 * k + 4) rfl rfl rfl (by omega) (by omega) (by omega) (by omega)) ?_
      obtain ⟨b1, o1, c1, hv, hc1, _, _, hR⟩ := hcut.at (k := 0) (by omega)
      rw [hv]
      (refine Ls (X_lenSlice rfl) ?_; refine Ls (X_move (v := .int _ _) rfl) ?_; refine L_nil ?_; refine tn ?_; refine W_block ?_)
      have B0 : Blk wr g3 93 (ints .u32 (Sha.sched bl k ++ beP bl k 0 :: List.replicate (63 - k) 0)) := by
        rw [show 64 - k = (63 - k) + 1 by omega, List.replicate_succ] at B
        exact B
      refine W_loop (fun q f w' => ∃ j, q = 4 - j ∧ j ≤ 4 ∧ f 0 = .slice (some ⟨b0, o0, none⟩) 64 c0 ∧ f 2 = .pointer (some ⟨g2, 0, none⟩) ∧ f 3 = .pointer (some ⟨g3, 0, none⟩) ∧ f 12 = .int .i64 (k : Nat) ∧ f 4 = .int .i64 (k : Nat) ∧
        f 21 = .slice (some ⟨b1, o1, none⟩) 4 c1 ∧ f 22 = .int .i64 4 ∧ f 23 = .int .i64 (j : Nat) ∧ Ext w w' ∧
        Blk w' g3 93 (ints .u32 (Sha.sched bl k ++ beP bl k j :: List.replicate (63 - k) 0)) ∧ Blk w' g2 93 (List.replicate 64 [Value.int IntKind.u32 0]).flatten) 4 ?_ ?_
      · exact ⟨0, rfl, by omega, rfl, rfl, rfl, rfl, rfl, rfl, rfl, rfl, E, B0, BB⟩
      · clear B0 B BB E h0 h2 h3 h12
        rintro q f wx ⟨j, rfl, hj, h0, h2, h3, h12, h4, h21, h22, h23, E, B, BB⟩
        rw [fold h0, fold h2, fold h3, fold h12, fold h4, fold h21, fold h22, fold h23]
        have hTl : (Sha.sched bl k ++ beP bl k j :: List.replicate (63 - k) 0).length = 64 := by simp [hsl]; omega
        (refine W_seq ?_; refine W_region ?_; refine Ls (X_lss rfl rfl) ?_; refine L_nil ?_; refine tn ?_; refine W_seq ?_)
        refine W_condp rfl (fun h => ?_) (fun h => ?_)
        · have hbl : ((bl.drop (4 * k)).take 4).length = 4 := by simp; omega
          (refine W_skip ?_; refine tn ?_; refine W_seq ?_; refine W_block ?_; refine W_seq ?_; refine W_region ?_; refine Ls (X_indexSn rfl rfl (by omega)) ?_; refine Ls (X_ldRI rfl (E.range hR) (by omega)) ?_; refine Ls (X_assign (v := .int _ _) rfl) ?_; refine L_nil ?_; refine tn ?_; refine W_region ?_; refine Ls (X_move (v := .int _ _) rfl) ?_; refine Ls (X_move (v := .int _ _) rfl) ?_; refine Ls (X_indexAn rfl rfl (by omega)) ?_; refine Ls (X_ldI rfl B (by rw [hTl]; omega)) ?_; refine Ls (X_shl rfl rfl (by omega)) ?_; refine Ls (X_move (v := .int _ _) rfl) ?_; refine Ls (X_conv rfl) ?_; refine Ls (X_or rfl rfl) ?_; refine Ls (X_indexAn rfl rfl (by omega)) ?_)
          refine L_store1 rfl (v := .int _ _) rfl rfl B (by rw [ints_len, hTl]; omega) ?_
          intro w5 B5 hg5 _
          (refine L_nil ?_; refine bn ?_; refine tn ?_; refine W_region ?_; refine Ls (X_addi rfl rfl (by omega)) ?_; refine Ls (X_move (v := .int _ _) rfl) ?_; refine L_nil ?_; refine tn ?_)
          have e1 : (Sha.sched bl k ++ beP bl k j :: List.replicate (63 - k) 0).getD (0 + k * 1) 0 = beP bl k j := by simp [List.getD, hsl]
          have e2 : ((bl.drop (4 * k)).take 4).getD j 0 = bl.getD (4 * k + j) 0 := by simp [List.getD, show j < 4 by omega]
          have hlt := beP_lt hb k j
          have : 256 ^ j ≤ 256 ^ 3 := Nat.pow_le_pow_right (by omega) (by omega)
          have e3 : (Sha.sched bl k ++ beP bl k j :: List.replicate (63 - k) 0).set (0 + k * 1) (beP bl k (j + 1)) = Sha.sched bl k ++ beP bl k (j + 1) :: List.replicate (63 - k) 0 := by simp [hsl]
          rw [e1, e2, shl8_walk _ _ (by omega) (Sha.getD_lt hb (by omega)), ints_set] at B5
          refine ⟨4 - (j + 1), by omega, j + 1, rfl, by omega, rfl, rfl, rfl, rfl, rfl, rfl, rfl, rfl, E.then hg5 (fun g h => by cases h; have := E1.size; omega), ?_, BB.grown hg5 (by simp; omega)⟩
          rw [← e3]; exact B5
        · obtain rfl : j = 4 := by omega
          (refine W_exit ?_; refine te ?_; refine te ?_; refine bx ?_; refine bn ?_; refine tn ?_; refine W_region ?_; refine Ls (X_addi rfl rfl (by omega)) ?_; refine Ls (X_move (v := .int _ _) rfl) ?_; refine L_nil ?_; refine tn ?_)
          refine ⟨16 - (k + 1), by omega, k + 1, rfl, by omega, rfl, rfl, rfl, rfl, E, ?_, BB⟩
          rw [beP_four] at B
          have e : Sha.sched bl (k + 1) = Sha.sched bl k ++ [Sha.be32 bl k] := by
            show Sha.sched bl k ++ [Sha.wnext bl (Sha.sched bl k) k] = _
            rw [Sha.wnext, if_pos (by omega)]
          rw [e, show 64 - (k + 1) = 63 - k by omega]
          simpa using B
    · obtain rfl : k = 16 := by omega
      (refine W_exit ?_; refine te ?_; refine te ?_; refine bx ?_; refine tn ?_; refine W_seq ?_; refine W_seq ?_; refine W_region ?_; refine Ls (X_assign (v := .int _ _) rfl) ?_; refine L_nil ?_; refine tn ?_; refine W_block ?_)
      refine W_loop (fun q f w' => ∃ k, q = 64 - k ∧ 16 ≤ k ∧ k ≤ 64 ∧ f 2 = .pointer (some ⟨g2, 0, none⟩) ∧ f 3 = .pointer (some ⟨g3, 0, none⟩) ∧ f 7 = .int .i64 (k : Nat) ∧ Ext w w' ∧
        Blk w' g3 93 (ints .u32 (Sha.sched bl k ++ List.replicate (64 - k) 0)) ∧ Blk w' g2 93 (List.replicate 64 [Value.int IntKind.u32 0]).flatten) 48 ?_ ?_
      · exact ⟨16, rfl, by omega, by omega, rfl, rfl, rfl, E, B, BB⟩
      · clear B BB E h0 h2 h3 h12 hsl
        rintro q f wr ⟨k, rfl, hk0, hk, h2, h3, h7, E, B, BB⟩
        rw [fold h2, fold h3, fold h7]
        have hsl : (Sha.sched bl k).length = k := Sha.sched_len bl k
        have hT : ∀ i, (Sha.sched bl k ++ List.replicate (64 - k) 0).getD i 0 < 4294967296 := fun i => Sha.getD_lt (fun x hx => by
          rcases List.mem_append.1 hx with hx | hx
          · exact Sha.sched_ok hb k x hx
          · rw [List.eq_of_mem_replicate hx]; omega) (by omega)
        have hTl : (Sha.sched bl k ++ List.replicate (64 - k) 0).length = 64 := by simp [hsl]; omega
        (refine W_seq ?_; refine W_seq ?_; refine W_region ?_; refine Ls (X_move (v := .int _ _) rfl) ?_; refine Ls (X_lss rfl rfl) ?_; refine L_nil ?_; refine tn ?_)
        refine W_condp rfl (fun h => ?_) (fun h => ?_)
        · (refine W_skip ?_; refine tn ?_; refine W_seq ?_; refine W_block ?_; refine W_seq ?_)
          apply W_dagE 10 (by kernel_rfl)
          (apply DW_x (fun r w hA hH => (X_move (v := .int _ _) rfl).trans rfl); apply DW_x (fun r w hA hH => (X_subi rfl rfl (by omega)).trans rfl); apply DW_x (fun r w hA hH => (X_indexA rfl rfl (by omega)).trans rfl); apply DW_x (fun r w hA hH => (X_ldI rfl (B.ext hA) (by rw [hTl]; omega)).trans rfl); apply DW_x (fun r w hA hH => (X_move (v := .int _ _) rfl).trans rfl); apply DW_x (fun r w hA hH => (X_subi rfl rfl (by omega)).trans rfl); apply DW_x (fun r w hA hH => (X_indexA rfl rfl (by omega)).trans rfl); apply DW_x (fun r w hA hH => (X_ldI rfl (B.ext hA) (by rw [hTl]; omega)).trans rfl); apply DW_x (fun r w hA hH => (X_assign (v := .int _ _) rfl).trans rfl); apply DW_x (fun r w hA hH => (X_assign (v := .int _ _) rfl).trans rfl))
          ((with_reducible exact D_end); (exact rfl); (repeat (first | exact trivial | (refine And.intro ?_ ?_) | exact .inr (.inr (fun _ _ => rfl)) | exact .inl (by decide) | exact .inr (.inl rfl))); (try dsimp only [Nat.reduceAdd]))
          intro r w4 E4 _
          (refine L_nil ?_; refine tn ?_; refine W_seq ?_; refine W_region ?_; refine Ls (X_move (v := .int _ _) rfl) ?_)
          refine L_fv rfl (rotl _ 7 (hT _) (by omega) w4) ?_
          intro w5 E5
          (refine Ls (X_move (v := .int _ _) rfl) ?_)
          refine L_fv rfl (rotl _ 18 (hT _) (by omega) w5) ?_
          intro w6 E6
          (refine Ls (X_xor rfl rfl) ?_; refine Ls (X_move (v := .int _ _) rfl) ?_; refine Ls (X_shr rfl rfl (by omega)) ?_; refine Ls (X_xor rfl rfl) ?_; refine Ls (X_assign (v := .int _ _) rfl) ?_; refine L_nil ?_; refine tn ?_; refine W_seq ?_; refine W_region ?_; refine Ls (X_move (v := .int _ _) rfl) ?_)
          refine L_fv rfl (rotl _ 17 (hT _) (by omega) w6) ?_
          intro w7 E7
          (refine Ls (X_move (v := .int _ _) rfl) ?_)
          refine L_fv rfl (rotl _ 19 (hT _) (by omega) w7) ?_
          intro w8 E8
          have Ea := E4.trans (E5.trans (E6.trans (E7.trans E8)))
          (refine Ls (X_xor rfl rfl) ?_; refine Ls (X_move (v := .int _ _) rfl) ?_; refine Ls (X_shr rfl rfl (by omega)) ?_; refine Ls (X_xor rfl rfl) ?_; refine Ls (X_assign (v := .int _ _) rfl) ?_; refine L_nil ?_; refine tn ?_)
          apply W_dagE 15 (by kernel_rfl)
          (apply DW_x (fun r w hA hH => (X_move (v := .int _ _) rfl).trans rfl); apply DW_x (fun r w hA hH => (X_move (v := .int _ _) rfl).trans rfl); apply DW_x (fun r w hA hH => (X_subi rfl rfl (by omega)).trans rfl); apply DW_x (fun r w hA hH => (X_indexA rfl rfl (by omega)).trans rfl); apply DW_x (fun r w hA hH => (X_ldI rfl ((B.ext Ea).ext hA) (by rw [hTl]; omega)).trans rfl); apply DW_x (fun r w hA hH => (X_move (v := .int _ _) rfl).trans rfl); apply DW_x (fun r w hA hH => (X_add rfl rfl).trans rfl); apply DW_x (fun r w hA hH => (X_move (v := .int _ _) rfl).trans rfl); apply DW_x (fun r w hA hH => (X_subi rfl rfl (by omega)).trans rfl); apply DW_x (fun r w hA hH => (X_indexA rfl rfl (by omega)).trans rfl); apply DW_x (fun r w hA hH => (X_ldI rfl ((B.ext Ea).ext hA) (by rw [hTl]; omega)).trans rfl); apply DW_x (fun r w hA hH => (X_add rfl rfl).trans rfl); apply DW_x (fun r w hA hH => (X_move (v := .int _ _) rfl).trans rfl); apply DW_x (fun r w hA hH => (X_add rfl rfl).trans rfl); apply DW_x (fun r w hA hH => (X_indexAn rfl rfl (by omega)).trans rfl))
          ((with_reducible exact D_end); (exact rfl); (repeat (first | exact trivial | (refine And.intro ?_ ?_) | exact .inr (.inr (fun _ _ => rfl)) | exact .inl (by decide) | exact .inr (.inl rfl))); (try dsimp only [Nat.reduceAdd]))
          intro r w9 E9 _
          refine L_store1 rfl (v := .int _ _) rfl rfl ((B.ext Ea).ext E9) (by rw [ints_len, hTl]; omega) ?_
          intro w10 B10 hg10 _
          (refine L_nil ?_; refine bn ?_; refine tn ?_; refine W_region ?_; refine Ls (X_move (v := .int _ _) rfl) ?_; refine Ls (X_addi rfl rfl (by omega)) ?_; refine Ls (X_assign (v := .int _ _) rfl) ?_; refine L_nil ?_; refine tn ?_)
          have s0 := sg_walk _ 7 18 3 (hT (k - 15)) (by omega)
          have s1 := sg_walk _ 17 19 10 (hT (k - 2)) (by omega)
          rw [show (0 + ((k : Int) - 16).toNat * 1) = k - 16 from by omega, show (0 + ((k : Int) - 15).toNat * 1) = k - 15 from by omega, show (0 + ((k : Int) - 7).toNat * 1) = k - 7 from by omega, show (0 + ((k : Int) - 2).toNat * 1) = k - 2 from by omega,
            show Int.toNat 3 = Int.toNat ((3 : Nat) : Int) from rfl, show Int.toNat 10 = Int.toNat ((10 : Nat) : Int) from rfl, s0, s1, wr3, tab_get _ _ _ (by omega), tab_get _ _ _ (by omega), tab_get _ _ _ (by omega), tab_get _ _ _ (by omega), ints_set, show (0 + k * 1) = k by omega,
            show 64 - k = (64 - (k + 1)) + 1 from by omega, tab_set _ _ _ _ hsl.symm] at B10
          have e : Sha.sched bl (k + 1) = Sha.sched bl k ++ [((Sha.sched bl k).getD (k - 16) 0 + Sha.sg0 ((Sha.sched bl k).getD (k - 15) 0) + (Sha.sched bl k).getD (k - 7) 0 + Sha.sg1 ((Sha.sched bl k).getD (k - 2) 0)) % 4294967296] := by
            show Sha.sched bl k ++ [Sha.wnext bl (Sha.sched bl k) k] = _
            rw [Sha.wnext, if_neg (by omega)]
          refine ⟨64 - (k + 1), by omega, k + 1, rfl, by omega, by omega, rfl, rfl, rfl, (E.trans (Ea.trans E9)).then hg10 (fun g h => by cases h; have := E1.size; omega), ?_, (BB.ext (Ea.trans E9)).grown hg10 (by simp; omega)⟩
          rw [e]; exact B10
        · obtain rfl : k = 64 := by omega
          (refine W_exit ?_; refine te ?_; refine te ?_; refine bx ?_; refine tn ?_; refine W_seq ?_; refine W_region ?_)
          have B' : Blk wr g3 93 (ints .u32 (Sha.sched bl 64)) := by simpa using B
          refine Ls (X_ldW rfl B' (by simp [ints_len, Sha.sched_len])) ?_
          refine L_storeW (l := ints .u32 (Sha.sched bl 64)) rfl rfl (by simp [ints_len, Sha.sched_len]) ints_cell BB rfl ?_
          intro w8 B8 hg8 _
          (refine L_nil ?_; refine tn ?_; refine W_ret ?_)
          refine endQ_res rfl rfl (Res.cellA inferInstance rfl (B8.range (fun j u h => by simpa using h)) (by simp [ints_len, Sha.sched_len]) .nil) ?_
          exact ⟨rfl, E.then hg8 (fun g h => by cases h; omega)⟩
end Go.Proofs.YtemodkjmdalmlaaDoor

/- The library's SHA-256: one block. -/
namespace Go.Proofs.YtemodkjmdalmlaaDoor
open Go.RowKit Go.Proofs.K

theorem maj_or (a b c : Nat) : (a &&& b) ^^^ (a &&& c) ^^^ (b &&& c) = (a &&& b) ||| (a &&& c) ||| (b &&& c) := by
  apply Nat.eq_of_testBit_eq
  intro i
  simp only [Nat.testBit_xor, Nat.testBit_and, Nat.testBit_or]
  cases a.testBit i <;> cases b.testBit i <;> cases c.testBit i <;> rfl
theorem addS_get (S R : Sha.S8) (j : Nat) (hj : j < 8) : (Sha.addS S R).list.getD j 0 = (S.list.getD j 0 + R.list.getD j 0) % 4294967296 := by
  match j, hj with
  | 0, _ | 1, _ | 2, _ | 3, _ | 4, _ | 5, _ | 6, _ | 7, _ => rfl
theorem mix_get (a b : List Nat) (j : Nat) (h : a.length = b.length) (hj : j < b.length) : (a.take j ++ b.drop j).getD j 0 = b.getD j 0 := by
  simp [List.getD, List.getElem?_append, hj, show min j a.length = j by omega]
theorem mix_set (a b : List Nat) (j : Nat) (h : a.length = b.length) (hj : j < b.length) : (a.take j ++ b.drop j).set j (a.getD j 0) = a.take (j + 1) ++ b.drop (j + 1) := by
  have hl : (a.take j).length = j := by simp; omega
  rw [List.set_append_right _ _ (by omega), hl, Nat.sub_self, List.drop_eq_getElem_cons hj, List.set_cons_zero, List.take_succ_eq_append_getElem (by omega), List.append_assoc]
  simp [List.getD, show j < a.length by omega]
theorem wr3b (a b c : Nat) : IntKind.u32.wrap (IntKind.u32.wrap ((a : Int) + (b : Nat)) + (c : Nat)) = (((a + (b + c) % 4294967296) % 4294967296 : Nat) : Int) := by
  simp only [IntKind.wrap_u32]; omega
theorem ones_xor (e : Nat) (he : e < 4294967296) : 4294967295 ^^^ e = 4294967295 - e := by
  have h : (BitVec.allOnes 32 ^^^ BitVec.ofNat 32 e).toNat = (~~~ BitVec.ofNat 32 e).toNat := by rw [BitVec.allOnes_xor]
  rw [BitVec.toNat_xor, BitVec.toNat_not, BitVec.toNat_ofNat, Nat.mod_eq_of_lt he, BitVec.toNat_allOnes] at h
  exact h
theorem inv_xor (e : Nat) (he : e < 4294967296) : bits BinOp.xor IntKind.u32 (if IntKind.u32.signed = true then -1 else IntKind.u32.max) (e : Int) = IntKind.u32.wrap (4294967295 - (e : Int)) := by
  rw [show (if IntKind.u32.signed = true then (-1 : Int) else IntKind.u32.max) = ((4294967295 : Nat) : Int) from rfl, bits_u32_xor _ _ (by omega) he, ones_xor e he, inv_walk e he]
theorem ch_walk (e f g : Nat) (he : e < 4294967296) (hf : f < 4294967296) (hg : g < 4294967296) : bits BinOp.xor IntKind.u32 (bits BinOp.and IntKind.u32 (e : Int) (f : Int)) (bits BinOp.and IntKind.u32 (IntKind.u32.wrap (4294967295 - (e : Int))) (g : Int)) = ((Sha.ch e f g : Nat) : Int) := by
  rw [inv_walk _ he, bits_u32_and _ _ he hf, bits_u32_and _ _ (by omega) hg, bits_u32_xor _ _ (Sha.and_lt hf) (Sha.and_lt hg)]
  rfl
theorem maj_walk (a b c : Nat) (ha : a < 4294967296) (hb : b < 4294967296) (hc : c < 4294967296) : bits BinOp.xor IntKind.u32 (bits BinOp.xor IntKind.u32 (bits BinOp.and IntKind.u32 (a : Int) (b : Int)) (bits BinOp.and IntKind.u32 (a : Int) (c : Int))) (bits BinOp.and IntKind.u32 (b : Int) (c : Int)) = ((Sha.maj a b c : Nat) : Int) := by
  rw [bits_u32_and _ _ ha hb, bits_u32_and _ _ ha hc, bits_u32_and _ _ hb hc, bits_u32_xor _ _ (Sha.and_lt hb) (Sha.and_lt hc), bits_u32_xor _ _ (Sha.xor_lt (Sha.and_lt hb) (Sha.and_lt hc)) (Sha.and_lt hc), maj_or]
  rfl

set_option maxHeartbeats 2000000 in
theorem gcompress (g lo hi : Nat) (v : Value) (S : Sha.S8) (hS : S.ok) (bl : List Nat) (hlen : bl.length = 64) (hb : Sha.bytesOk bl) (w : World) (hr : Row w lo hi 1 v 64 (ints .u8 bl)) (hg : Blk w g 99 (ints .u32 S.list))
    (hk : Rng w 1 (ints .u32 Sha.ks)) :
    Calls Tryd.prog 65 #[.pointer (some ⟨g, 0, none⟩), v] w fun e w' => e = .returned (.tuple #[]) ∧ Blk w' g 99 (ints .u32 (Sha.compress S bl).list) ∧ w.grownBy w' (some g) := by
  refine calls_W Tryd.func65 rfl Tryd.ntmps65 rfl ?_
  (refine W_seq ?_; refine W_region ?_; refine Ls (X_move (v := v) rfl) ?_)
  refine L_fv rfl (gschedule lo hi v bl hlen hb w hr) ?_
  intro w1 E1
  refine L_alloc ?_
  intro g4 w2 B4 hg4 E2 hs2
  refine L_storeW (l := ints .u32 (Sha.sched bl 64)) rfl rfl (by simp [ints_len, Sha.sched_len]) ints_cell B4 rfl ?_
  intro w3 B4' hg3 hs3
  have E3 : Ext w w3 := (E1.trans E2).then hg3 (fun g h => by cases h; have := E1.size; omega)
  have G3 := hg.ext E3
  (refine L_nil ?_; refine tn ?_; refine W_seq ?_; refine W_region ?_; refine Ls (X_move (v := .pointer _) rfl) ?_; refine Ls (X_nil rfl) ?_; refine Ls (X_ldW rfl G3 rfl) ?_)
  refine L_alloc ?_
  intro g5 w4 B5 hg5 E4 hs4
  refine L_storeW (l := ints .u32 S.list) rfl rfl rfl ints_cell B5 rfl ?_
  intro w5 B5' hgg5 hs5
  have E5 : Ext w w5 := (E3.trans E4).then hgg5 (fun g h => by cases h; have := E3.size; omega)
  have C4 := (B4'.ext E4).grown hgg5 (by simp; omega)
  have hglt : g < w.heap.size := hg.lt
  (refine L_nil ?_; refine tn ?_; refine W_seq ?_; refine W_seq ?_; refine W_region ?_; refine Ls (X_move (v := .int _ _) rfl) ?_; refine L_nil ?_; refine tn ?_; refine W_block ?_)
  refine W_loop (fun q f w' => ∃ k, q = 64 - k ∧ k ≤ 64 ∧ f 0 = .pointer (some ⟨g, 0, none⟩) ∧ f 4 = .pointer (some ⟨g4, 0, none⟩) ∧ f 5 = .pointer (some ⟨g5, 0, none⟩) ∧ f 21 = .int .i64 (k : Nat) ∧ Ext w w' ∧
    Blk w' g4 93 (ints .u32 (Sha.sched bl 64)) ∧ Blk w' g5 99 (ints .u32 (Sha.rounds S (Sha.sched bl 64) k).list)) 64 ?_ ?_
  · exact ⟨0, rfl, by omega, rfl, rfl, rfl, rfl, E5, C4, B5'⟩
  · clear B5 B5' C4
    rintro q f wr ⟨k, rfl, hkk, h0, h4, h5, h21, E, D4, D5⟩
    rw [fold h0, fold h4, fold h5, fold h21]
    have hok := Sha.rounds_ok hS (Sha.sched bl 64) k
    have hnext : Sha.rounds S (Sha.sched bl 64) (k + 1) = Sha.round (Sha.rounds S (Sha.sched bl 64) k) (Sha.ks.getD k 0) ((Sha.sched bl 64).getD k 0) := rfl
    have hlast : k = 64 → Sha.compress S bl = Sha.addS S (Sha.rounds S (Sha.sched bl 64) k) := by rintro rfl; rfl
    generalize Sha.rounds S (Sha.sched bl 64) k = R at D5 hok hnext hlast
    have hsl : (Sha.sched bl 64).length = 64 := Sha.sched_len bl 64
    have hws : (Sha.sched bl 64).getD k 0 < 4294967296 := Sha.getD_lt (Sha.sched_ok hb 64) (by omega)
    generalize Sha.sched bl 64 = ws at D4 hnext hsl hws
    obtain ⟨ra, rb, rc, rd, re, rf, rg, rh⟩ := hok
    (refine W_seq ?_; refine W_region ?_; refine Ls (X_lss rfl rfl) ?_; refine L_nil ?_; refine tn ?_; refine W_seq ?_)
    refine W_condp rfl (fun h => ?_) (fun h => ?_)
    · (refine W_skip ?_; refine tn ?_; refine W_seq ?_; refine W_block ?_; refine W_seq ?_; refine W_region ?_; refine Ls (X_move (v := .int _ _) rfl) ?_; refine Ls (X_assign (v := .int _ _) rfl) ?_; refine L_nil ?_; refine tn ?_; refine W_seq ?_)
      apply W_dagE 6 (by kernel_rfl)
      (apply DW_x (fun r w hA hH => (X_indexA rfl rfl (by omega)).trans rfl); apply DW_x (fun r w hA hH => (X_ldI rfl (D5.ext hA) (by show _ < 8; omega)).trans rfl); apply DW_x (fun r w hA hH => (X_indexA rfl rfl (by omega)).trans rfl); apply DW_x (fun r w hA hH => (X_ldI rfl (D5.ext hA) (by show _ < 8; omega)).trans rfl); apply DW_x (fun r w hA hH => (X_assign (v := .int _ _) rfl).trans rfl); apply DW_x (fun r w hA hH => (X_assign (v := .int _ _) rfl).trans rfl))
      ((with_reducible exact D_end); (exact rfl); (repeat (first | exact trivial | (refine And.intro ?_ ?_) | exact .inr (.inr (fun _ _ => rfl)) | exact .inl (by decide) | exact .inr (.inl rfl))); (try dsimp only [Nat.reduceAdd]))
      intro r w6 E6 _
      (refine L_nil ?_; refine tn ?_; refine W_seq ?_; refine W_region ?_; refine Ls (X_move (v := .int _ _) rfl) ?_)
      have q0 : R.list.getD (0 + Int.toNat 0 * 1) 0 = R.a := rfl
      have q1 : R.list.getD (0 + Int.toNat 1 * 1) 0 = R.b := rfl
      have q2 : R.list.getD (0 + Int.toNat 2 * 1) 0 = R.c := rfl
      have q4 : R.list.getD (0 + Int.toNat 4 * 1) 0 = R.e := rfl
      have q5 : R.list.getD (0 + Int.toNat 5 * 1) 0 = R.f := rfl
      have q6 : R.list.getD (0 + Int.toNat 6 * 1) 0 = R.g := rfl
      have q7 : R.list.getD (0 + Int.toNat 7 * 1) 0 = R.h := rfl
      rw [q0, q4]
      refine L_fv rfl (rotl R.e 6 re (by omega) w6) ?_
      intro w7 E7
      (refine Ls (X_move (v := .int _ _) rfl) ?_)
      refine L_fv rfl (rotl R.e 11 re (by omega) w7) ?_
      intro w8 E8
      (refine Ls (X_xor rfl rfl) ?_; refine Ls (X_move (v := .int _ _) rfl) ?_)
      refine L_fv rfl (rotl R.e 25 re (by omega) w8) ?_
      intro w9 E9
      have Ea := E6.trans (E7.trans (E8.trans E9))
      (refine Ls (X_xor rfl rfl) ?_; refine Ls (X_assign (v := .int _ _) rfl) ?_; refine L_nil ?_; refine tn ?_; refine W_seq ?_; refine W_region ?_; refine Ls (X_move (v := .int _ _) rfl) ?_; refine Ls (X_indexA rfl rfl (by omega)) ?_; refine Ls (X_ldI rfl (D5.ext Ea) (by show _ < 8; omega)) ?_; refine Ls (X_and rfl rfl) ?_; refine Ls (X_move (v := .int _ _) rfl) ?_; refine Ls (X_inv rfl) ?_; refine Ls (X_indexA rfl rfl (by omega)) ?_; refine Ls (X_ldI rfl (D5.ext Ea) (by show _ < 8; omega)) ?_; refine Ls (X_and rfl rfl) ?_; refine Ls (X_xor rfl rfl) ?_; refine Ls (X_assign (v := .int _ _) rfl) ?_; refine L_nil ?_; refine tn ?_; refine W_seq ?_)
      rw [q5, q6]
      (apply shrink9 0 4 5 21 6 7 8 9 10; (first | exact (rfl : _ = Value.int _ _) | exact (rfl : _ = Value.slice _ _ _) | exact (rfl : _ = Value.bool _) | exact (rfl : _ = Value.pointer _) | exact (rfl : _ = Value.agg _) | exact (rfl : _ = Value.string _) | exact (rfl : _ = Value.tuple _) | exact (rfl : _ = Value.func _ _ _) | exact (rfl : _ = Value.map _)); (first | exact (rfl : _ = Value.int _ _) | exact (rfl : _ = Value.slice _ _ _) | exact (rfl : _ = Value.bool _) | exact (rfl : _ = Value.pointer _) | exact (rfl : _ = Value.agg _) | exact (rfl : _ = Value.string _) | exact (rfl : _ = Value.tuple _) | exact (rfl : _ = Value.func _ _ _) | exact (rfl : _ = Value.map _)); (first | exact (rfl : _ = Value.int _ _) | exact (rfl : _ = Value.slice _ _ _) | exact (rfl : _ = Value.bool _) | exact (rfl : _ = Value.pointer _) | exact (rfl : _ = Value.agg _) | exact (rfl : _ = Value.string _) | exact (rfl : _ = Value.tuple _) | exact (rfl : _ = Value.func _ _ _) | exact (rfl : _ = Value.map _)); (first | exact (rfl : _ = Value.int _ _) | exact (rfl : _ = Value.slice _ _ _) | exact (rfl : _ = Value.bool _) | exact (rfl : _ = Value.pointer _) | exact (rfl : _ = Value.agg _) | exact (rfl : _ = Value.string _) | exact (rfl : _ = Value.tuple _) | exact (rfl : _ = Value.func _ _ _) | exact (rfl : _ = Value.map _)); (first | exact (rfl : _ = Value.int _ _) | exact (rfl : _ = Value.slice _ _ _) | exact (rfl : _ = Value.bool _) | exact (rfl : _ = Value.pointer _) | exact (rfl : _ = Value.agg _) | exact (rfl : _ = Value.string _) | exact (rfl : _ = Value.tuple _) | exact (rfl : _ = Value.func _ _ _) | exact (rfl : _ = Value.map _)); (first | exact (rfl : _ = Value.int _ _) | exact (rfl : _ = Value.slice _ _ _) | exact (rfl : _ = Value.bool _) | exact (rfl : _ = Value.pointer _) | exact (rfl : _ = Value.agg _) | exact (rfl : _ = Value.string _) | exact (rfl : _ = Value.tuple _) | exact (rfl : _ = Value.func _ _ _) | exact (rfl : _ = Value.map _)); (first | exact (rfl : _ = Value.int _ _) | exact (rfl : _ = Value.slice _ _ _) | exact (rfl : _ = Value.bool _) | exact (rfl : _ = Value.pointer _) | exact (rfl : _ = Value.agg _) | exact (rfl : _ = Value.string _) | exact (rfl : _ = Value.tuple _) | exact (rfl : _ = Value.func _ _ _) | exact (rfl : _ = Value.map _)); (first | exact (rfl : _ = Value.int _ _) | exact (rfl : _ = Value.slice _ _ _) | exact (rfl : _ = Value.bool _) | exact (rfl : _ = Value.pointer _) | exact (rfl : _ = Value.agg _) | exact (rfl : _ = Value.string _) | exact (rfl : _ = Value.tuple _) | exact (rfl : _ = Value.func _ _ _) | exact (rfl : _ = Value.map _)); (first | exact (rfl : _ = Value.int _ _) | exact (rfl : _ = Value.slice _ _ _) | exact (rfl : _ = Value.bool _) | exact (rfl : _ = Value.pointer _) | exact (rfl : _ = Value.agg _) | exact (rfl : _ = Value.string _) | exact (rfl : _ = Value.tuple _) | exact (rfl : _ = Value.func _ _ _) | exact (rfl : _ = Value.map _)); intro f)
      apply W_dagE 15 (by kernel_rfl)
      (apply DW_x (fun r w hA hH => (X_indexA rfl rfl (by omega)).trans rfl); apply DW_x (fun r w hA hH => (X_ldI rfl ((D5.ext Ea).ext hA) (by show _ < 8; omega)).trans rfl); apply DW_x (fun r w hA hH => (X_move (v := .int _ _) rfl).trans rfl); apply DW_x (fun r w hA hH => (X_add rfl rfl).trans rfl); apply DW_x (fun r w hA hH => (X_move (v := .int _ _) rfl).trans rfl); apply DW_x (fun r w hA hH => (X_add rfl rfl).trans rfl); apply DW_x (fun r w hA hH => (X_move (v := .int _ _) rfl).trans rfl); apply DW_x (fun r w hA hH => (X_indexAn rfl rfl (by omega)).trans rfl); apply DW_x (fun r w hA hH => (X_ldIg rfl (((hk.ext E).ext Ea).ext hA) (by show _ < 64; omega)).trans rfl); apply DW_x (fun r w hA hH => (X_add rfl rfl).trans rfl); apply DW_x (fun r w hA hH => (X_move (v := .int _ _) rfl).trans rfl); apply DW_x (fun r w hA hH => (X_indexAn rfl rfl (by omega)).trans rfl); apply DW_x (fun r w hA hH => (X_ldI rfl ((D4.ext Ea).ext hA) (by omega)).trans rfl); apply DW_x (fun r w hA hH => (X_add rfl rfl).trans rfl); apply DW_x (fun r w hA hH => (X_assign (v := .int _ _) rfl).trans rfl))
      ((with_reducible exact D_end); (exact rfl); (repeat (first | exact trivial | (refine And.intro ?_ ?_) | exact .inr (.inr (fun _ _ => rfl)) | exact .inl (by decide) | exact .inr (.inl rfl))); (try dsimp only [Nat.reduceAdd]))
      intro r w10 E10 _
      have e1 := t1_walk R (Sha.ks.getD k 0) (ws.getD k 0) ⟨ra, rb, rc, rd, re, rf, rg, rh⟩
      rw [show 0 + k * 1 = k from by omega, q7, inv_xor _ re, e1]
      refine L_nil ?_
      with_reducible refine tn ?_
      (apply shrink6 0 4 5 21 7 11; (first | exact (rfl : _ = Value.int _ _) | exact (rfl : _ = Value.slice _ _ _) | exact (rfl : _ = Value.bool _) | exact (rfl : _ = Value.pointer _) | exact (rfl : _ = Value.agg _) | exact (rfl : _ = Value.string _) | exact (rfl : _ = Value.tuple _) | exact (rfl : _ = Value.func _ _ _) | exact (rfl : _ = Value.map _)); (first | exact (rfl : _ = Value.int _ _) | exact (rfl : _ = Value.slice _ _ _) | exact (rfl : _ = Value.bool _) | exact (rfl : _ = Value.pointer _) | exact (rfl : _ = Value.agg _) | exact (rfl : _ = Value.string _) | exact (rfl : _ = Value.tuple _) | exact (rfl : _ = Value.func _ _ _) | exact (rfl : _ = Value.map _)); (first | exact (rfl : _ = Value.int _ _) | exact (rfl : _ = Value.slice _ _ _) | exact (rfl : _ = Value.bool _) | exact (rfl : _ = Value.pointer _) | exact (rfl : _ = Value.agg _) | exact (rfl : _ = Value.string _) | exact (rfl : _ = Value.tuple _) | exact (rfl : _ = Value.func _ _ _) | exact (rfl : _ = Value.map _)); (first | exact (rfl : _ = Value.int _ _) | exact (rfl : _ = Value.slice _ _ _) | exact (rfl : _ = Value.bool _) | exact (rfl : _ = Value.pointer _) | exact (rfl : _ = Value.agg _) | exact (rfl : _ = Value.string _) | exact (rfl : _ = Value.tuple _) | exact (rfl : _ = Value.func _ _ _) | exact (rfl : _ = Value.map _)); (first | exact (rfl : _ = Value.int _ _) | exact (rfl : _ = Value.slice _ _ _) | exact (rfl : _ = Value.bool _) | exact (rfl : _ = Value.pointer _) | exact (rfl : _ = Value.agg _) | exact (rfl : _ = Value.string _) | exact (rfl : _ = Value.tuple _) | exact (rfl : _ = Value.func _ _ _) | exact (rfl : _ = Value.map _)); (first | exact (rfl : _ = Value.int _ _) | exact (rfl : _ = Value.slice _ _ _) | exact (rfl : _ = Value.bool _) | exact (rfl : _ = Value.pointer _) | exact (rfl : _ = Value.agg _) | exact (rfl : _ = Value.string _) | exact (rfl : _ = Value.tuple _) | exact (rfl : _ = Value.func _ _ _) | exact (rfl : _ = Value.map _)); intro f)
      (refine W_seq ?_; refine W_region ?_; refine Ls (X_move (v := .int _ _) rfl) ?_)
      refine L_fv rfl (rotl R.a 2 ra (by omega) w10) ?_
      intro w11 E11
      (refine Ls (X_move (v := .int _ _) rfl) ?_)
      refine L_fv rfl (rotl R.a 13 ra (by omega) w11) ?_
      intro w12 E12
      (refine Ls (X_xor rfl rfl) ?_; refine Ls (X_move (v := .int _ _) rfl) ?_)
      refine L_fv rfl (rotl R.a 22 ra (by omega) w12) ?_
      intro w13 E13
      have Eb := Ea.trans (E10.trans (E11.trans (E12.trans E13)))
      (refine Ls (X_xor rfl rfl) ?_; refine Ls (X_assign (v := .int _ _) rfl) ?_; refine L_nil ?_; refine tn ?_; refine W_seq ?_; refine W_region ?_; refine Ls (X_move (v := .int _ _) rfl) ?_; refine Ls (X_indexA rfl rfl (by omega)) ?_; refine Ls (X_ldI rfl (D5.ext Eb) (by show _ < 8; omega)) ?_; refine Ls (X_and rfl rfl) ?_; refine Ls (X_move (v := .int _ _) rfl) ?_; refine Ls (X_indexA rfl rfl (by omega)) ?_; refine Ls (X_ldI rfl (D5.ext Eb) (by show _ < 8; omega)) ?_; refine Ls (X_and rfl rfl) ?_; refine Ls (X_xor rfl rfl) ?_; refine Ls (X_indexA rfl rfl (by omega)) ?_; refine Ls (X_ldI rfl (D5.ext Eb) (by show _ < 8; omega)) ?_; refine Ls (X_indexA rfl rfl (by omega)) ?_; refine Ls (X_ldI rfl (D5.ext Eb) (by show _ < 8; omega)) ?_; refine Ls (X_and rfl rfl) ?_; refine Ls (X_xor rfl rfl) ?_; refine Ls (X_assign (v := .int _ _) rfl) ?_; refine L_nil ?_; refine tn ?_; refine W_seq ?_)
      rw [q1, q2, maj_walk _ _ _ ra rb rc, rot3_walk _ _ _ _ ra]
      (apply shrink7 0 4 5 21 11 12 13; (first | exact (rfl : _ = Value.int _ _) | exact (rfl : _ = Value.slice _ _ _) | exact (rfl : _ = Value.bool _) | exact (rfl : _ = Value.pointer _) | exact (rfl : _ = Value.agg _) | exact (rfl : _ = Value.string _) | exact (rfl : _ = Value.tuple _) | exact (rfl : _ = Value.func _ _ _) | exact (rfl : _ = Value.map _)); (first | exact (rfl : _ = Value.int _ _) | exact (rfl : _ = Value.slice _ _ _) | exact (rfl : _ = Value.bool _) | exact (rfl : _ = Value.pointer _) | exact (rfl : _ = Value.agg _) | exact (rfl : _ = Value.string _) | exact (rfl : _ = Value.tuple _) | exact (rfl : _ = Value.func _ _ _) | exact (rfl : _ = Value.map _)); (first | exact (rfl : _ = Value.int _ _) | exact (rfl : _ = Value.slice _ _ _) | exact (rfl : _ = Value.bool _) | exact (rfl : _ = Value.pointer _) | exact (rfl : _ = Value.agg _) | exact (rfl : _ = Value.string _) | exact (rfl : _ = Value.tuple _) | exact (rfl : _ = Value.func _ _ _) | exact (rfl : _ = Value.map _)); (first | exact (rfl : _ = Value.int _ _) | exact (rfl : _ = Value.slice _ _ _) | exact (rfl : _ = Value.bool _) | exact (rfl : _ = Value.pointer _) | exact (rfl : _ = Value.agg _) | exact (rfl : _ = Value.string _) | exact (rfl : _ = Value.tuple _) | exact (rfl : _ = Value.func _ _ _) | exact (rfl : _ = Value.map _)); (first | exact (rfl : _ = Value.int _ _) | exact (rfl : _ = Value.slice _ _ _) | exact (rfl : _ = Value.bool _) | exact (rfl : _ = Value.pointer _) | exact (rfl : _ = Value.agg _) | exact (rfl : _ = Value.string _) | exact (rfl : _ = Value.tuple _) | exact (rfl : _ = Value.func _ _ _) | exact (rfl : _ = Value.map _)); (first | exact (rfl : _ = Value.int _ _) | exact (rfl : _ = Value.slice _ _ _) | exact (rfl : _ = Value.bool _) | exact (rfl : _ = Value.pointer _) | exact (rfl : _ = Value.agg _) | exact (rfl : _ = Value.string _) | exact (rfl : _ = Value.tuple _) | exact (rfl : _ = Value.func _ _ _) | exact (rfl : _ = Value.map _)); (first | exact (rfl : _ = Value.int _ _) | exact (rfl : _ = Value.slice _ _ _) | exact (rfl : _ = Value.bool _) | exact (rfl : _ = Value.pointer _) | exact (rfl : _ = Value.agg _) | exact (rfl : _ = Value.string _) | exact (rfl : _ = Value.tuple _) | exact (rfl : _ = Value.func _ _ _) | exact (rfl : _ = Value.map _)); intro f)
      apply W_dagE 2 (by kernel_rfl)
      ((with_reducible apply DW_x); (exact fun r w hA hH => (X_arrFrom 1 rfl rfl rfl (by omega)).trans rfl))
      ((with_reducible apply DW_x); (exact fun r w hA hH => (X_arrTo 7 rfl rfl rfl (by omega) (by omega)).trans rfl))
      ((with_reducible exact D_end); (exact rfl); (repeat (first | exact trivial | (refine And.intro ?_ ?_) | exact .inr (.inr (fun _ _ => rfl)) | exact .inl (by decide) | exact .inr (.inl rfl))); (try dsimp only [Nat.reduceAdd]))
      intro r w14 E14 _
      have D6 := (D5.ext Eb).ext E14
      refine L_copy (m := 7) (cs := ints .u32 [R.a, R.b, R.c, R.d, R.e, R.f, R.g]) rfl rfl D6 rfl rfl (D6.range (fun j u hu => ?_)) (by show _ ≤ 8; omega) ints_cell ?_
      · have hj : j < 7 := (List.getElem?_eq_some_iff.1 hu).1
        rw [show 0 + j = j by omega]
        rw [← hu]
        match j, hj with
        | 0, _ | 1, _ | 2, _ | 3, _ | 4, _ | 5, _ | 6, _ => rfl
      intro w15 B15 hg15 hs15
      have B15' : Blk w15 g5 99 (ints .u32 [R.a, R.a, R.b, R.c, R.d, R.e, R.f, R.g]) := B15
      (refine L_nil ?_; refine tn ?_; refine W_seq ?_; refine W_region ?_; refine Ls (X_indexA rfl rfl (by omega)) ?_; refine Ls (X_ldI rfl B15' (by show _ < 8; omega)) ?_; refine Ls (X_move (v := .int _ _) rfl) ?_; refine Ls (X_add rfl rfl) ?_; refine Ls (X_indexA rfl rfl (by omega)) ?_)
      refine L_store1 rfl (v := .int _ _) rfl rfl B15' (by show _ < 8; omega) ?_
      intro w16 B16 hg16 hs16
      rw [show ([R.a, R.a, R.b, R.c, R.d, R.e, R.f, R.g] : List Nat).getD (0 + Int.toNat 4 * 1) 0 = R.d from rfl, wr2] at B16
      have B16' : Blk w16 g5 99 (ints .u32 [R.a, R.a, R.b, R.c, (R.d + Sha.t1 R (Sha.ks.getD k 0) (ws.getD k 0)) % 4294967296, R.e, R.f, R.g]) := B16
      (refine L_nil ?_; refine tn ?_; refine W_region ?_; refine Ls (X_move (v := .int _ _) rfl) ?_; refine Ls (X_move (v := .int _ _) rfl) ?_; refine Ls (X_add rfl rfl) ?_; refine Ls (X_move (v := .int _ _) rfl) ?_; refine Ls (X_add rfl rfl) ?_; refine Ls (X_indexA rfl rfl (by omega)) ?_)
      refine L_store1 rfl (v := .int _ _) rfl rfl B16' (by show _ < 8; omega) ?_
      intro w17 B17 hg17 hs17
      rw [wr3b] at B17
      have B17' : Blk w17 g5 99 (ints .u32 (Sha.round R (Sha.ks.getD k 0) (ws.getD k 0)).list) := B17
      (refine L_nil ?_; refine bn ?_; refine tn ?_; refine W_region ?_; refine Ls (X_addi rfl rfl (by omega)) ?_; refine Ls (X_move (v := .int _ _) rfl) ?_; refine L_nil ?_; refine tn ?_)
      have Ec : Ext wr w14 := Eb.trans E14
      have hE := E5.size
      have Ed : Ext w w17 := ((((E.trans Ec).then hg15 (fun g h => by cases h; have := E3.size; omega)).then hg16 (fun g h => by cases h; have := E3.size; omega)).then hg17 (fun g h => by cases h; have := E3.size; omega))
      refine ⟨64 - (k + 1), by omega, k + 1, rfl, by omega, rfl, rfl, rfl, rfl, Ed, ((((D4.ext Ec).grown hg15 (by simp; omega)).grown hg16 (by simp; omega)).grown hg17 (by simp; omega)), ?_⟩
      rw [hnext]; exact B17'
    · obtain rfl : k = 64 := by omega
      have G0 := hg.ext E
      (refine W_exit ?_; refine te ?_; refine te ?_; refine bx ?_; refine tn ?_; refine W_seq ?_; refine W_region ?_; refine Ls (X_ldW rfl D5 rfl) ?_; refine Ls (X_move (v := .int _ _) rfl) ?_; refine L_nil ?_; refine tn ?_; refine W_block ?_)
      rw [hlast rfl]
      clear hlast hnext hws
      refine W_loop (fun q f w' => ∃ j, q = 8 - j ∧ j ≤ 8 ∧ f 0 = .pointer (some ⟨g, 0, none⟩) ∧ f 98 = .agg (ints .u32 R.list).toArray ∧ f 99 = .int .i64 (j : Nat) ∧ w.grownBy w' (some g) ∧
        Blk w' g 99 (ints .u32 ((Sha.addS S R).list.take j ++ S.list.drop j))) 8 ?_ ?_
      · exact ⟨0, rfl, by omega, rfl, rfl, rfl, E.row _, G0⟩
      · clear G0 D5 D4 E h0 h4 h5 h21
        rintro q f wy ⟨j, rfl, hj, h0, h98, h99, hgy, G⟩
        rw [fold h0, fold h98, fold h99]
        have hll : ((Sha.addS S R).list.take j ++ S.list.drop j).length = 8 := by simp [Sha.list_len]; omega
        (refine W_seq ?_; refine W_region ?_; refine Ls (X_lss rfl rfl) ?_; refine L_nil ?_; refine tn ?_; refine W_seq ?_)
        refine W_condp rfl (fun h => ?_) (fun h => ?_)
        · (refine W_skip ?_; refine tn ?_; refine W_seq ?_; refine W_block ?_; refine W_seq ?_; refine W_region ?_; refine Ls (X_move (v := .int _ _) rfl) ?_)
          refine Ls (X_indexVI (i := j) (len := 8) rfl rfl (by omega) rfl) ?_
          (refine Ls (X_assign (v := .int _ _) rfl) ?_; refine Ls (X_assign (v := .int _ _) rfl) ?_; refine L_nil ?_; refine tn ?_)
          apply W_dagE 9 (by kernel_rfl)
          (apply DW_x (fun r w hA hH => (X_move (v := .pointer _) rfl).trans rfl); apply DW_x (fun r w hA hH => (X_move (v := .int _ _) rfl).trans rfl); apply DW_x (fun r w hA hH => (X_nil rfl).trans rfl); apply DW_x (fun r w hA hH => (X_indexAn rfl rfl (by omega)).trans rfl); apply DW_x (fun r w hA hH => (X_ldI rfl (G.ext hA) (by rw [hll]; omega)).trans rfl); apply DW_x (fun r w hA hH => (X_move (v := .int _ _) rfl).trans rfl); apply DW_x (fun r w hA hH => (X_add rfl rfl).trans rfl); apply DW_x (fun r w hA hH => (X_nil rfl).trans rfl); apply DW_x (fun r w hA hH => (X_indexAn rfl rfl (by omega)).trans rfl))
          ((with_reducible exact D_end); (exact rfl); (repeat (first | exact trivial | (refine And.intro ?_ ?_) | exact .inr (.inr (fun _ _ => rfl)) | exact .inl (by decide) | exact .inr (.inl rfl))); (try dsimp only [Nat.reduceAdd]))
          intro r w6 E6 _
          refine L_store1 rfl (v := .int _ _) rfl rfl (G.ext E6) (by rw [ints_len, hll]; omega) ?_
          intro w7 B7 hg7 hs7
          (refine L_nil ?_; refine bn ?_; refine tn ?_; refine W_region ?_; refine Ls (X_addi rfl rfl (by omega)) ?_; refine Ls (X_move (v := .int _ _) rfl) ?_; refine L_nil ?_; refine tn ?_)
          rw [show 0 + j * 1 = j by omega, mix_get _ _ _ (by rw [Sha.list_len, Sha.list_len]) (by rw [Sha.list_len]; omega), wr2, ← addS_get S R j (by omega), ints_set, mix_set _ _ _ (by rw [Sha.list_len, Sha.list_len]) (by rw [Sha.list_len]; omega)] at B7
          exact ⟨8 - (j + 1), by omega, j + 1, rfl, by omega, rfl, rfl, rfl, grown_trans' (grown_trans' hgy E6 (fun _ h => by cases h)) hg7 (fun g' h => by cases h; exact .inl rfl), B7⟩
        · obtain rfl : j = 8 := by omega
          (refine W_exit ?_; refine te ?_; refine te ?_; refine bx ?_)
          refine endQ_end0 rfl rfl ?_
          have e : (Sha.addS S R).list.take 8 ++ S.list.drop 8 = (Sha.addS S R).list := rfl
          rw [e] at G
          exact ⟨rfl, G, hgy⟩
end Go.Proofs.YtemodkjmdalmlaaDoor

/- Slices of bytes: clone. -/
namespace Go.Proofs.YtemodkjmdalmlaaDoor
open Go.RowKit Go.Proofs.K

set_option maxHeartbeats 1000000 in
theorem cloneB (lo hi : Nat) (v : Value) (a : List Nat) (hl : a.length ≤ 1000000000) (w : World) (hr : Row w lo hi 1 v a.length (ints .u8 a)) :
    Calls Tryd.prog 62 #[v] w fun e w' => ∃ q, e = .returned q ∧ Ext w w' ∧ w'.ownsRow w.heap.size 5 1 q a.length (ints .u8 a) := by
  refine calls_W Tryd.func62 rfl Tryd.ntmps62 rfl ?_
  have hr' := hr
  obtain ⟨hl0, A, c, rfl, hc, hcm, hn⟩ := hr'
  (refine W_seq ?_; refine W_region ?_; refine Ls (X_assign (v := .slice _ _ _) rfl) ?_; refine L_nil ?_; refine tn ?_; refine W_seq ?_; refine W_seq ?_; refine W_region ?_; refine Ls (X_move (v := .slice _ _ _) rfl) ?_)
  refine Ls (X_eqlNil rfl rfl) ?_
  (refine L_nil ?_; refine tn ?_)
  refine W_cond rfl (fun h => ?_) (fun h => ?_)
  · have hA : A = none := by simpa using h
    subst hA
    have h0 : a = [] := by
      rcases Nat.eq_zero_or_pos a.length with h0 | h0
      · exact List.eq_nil_of_length_eq_zero h0
      · obtain ⟨b, o, hb, _⟩ := hn h0; cases hb
    subst h0
    (refine W_seq ?_; refine W_region ?_; refine Ls (X_assign (v := .slice _ _ _) rfl) ?_; refine L_nil ?_; refine tn ?_; refine W_ret ?_; refine tr ?_)
    refine endQ_ret1 rfl rfl (v := .slice _ _ _) rfl ?_
    exact ⟨_, rfl, Ext.refl w, ⟨rfl, .inl ⟨rfl, rfl⟩⟩⟩
  · (refine W_skip ?_; refine tn ?_; refine W_seq ?_; refine W_region ?_)
    refine L_lit0 ?_
    intro q1 w1 E1 hs1 o1
    (refine Ls (X_move (v := .slice _ _ _) rfl) ?_)
    refine L_append (v := q1) (u := .slice _ _ _) rfl rfl o1 (hr.ext E1) ints_cell (by omega) (by omega) (by omega) ?_
    intro q2 w2 o2 hg2 _
    (refine Ls (X_assign (v := q2) rfl) ?_; refine L_nil ?_; refine tn ?_; refine W_ret ?_)
    refine endQ_ret1 rfl rfl (v := q2) rfl ?_
    refine ⟨q2, rfl, E1.then hg2 (fun g h => (o1.lt g h).1), ?_⟩
    rw [Nat.zero_add, List.nil_append] at o2
    exact o2
end Go.Proofs.YtemodkjmdalmlaaDoor

/- The library's SHA-256: the blocks of a padded message, one by one. -/
namespace Go.Proofs.YtemodkjmdalmlaaDoor
open Go.RowKit Go.Proofs.K

/-- the i-th block -/
def blk (a : List Nat) (i : Nat) : List Nat := ((Sha.pad a).drop (64 * i)).take 64
/-- what each yield hands over -/
def PreB (a : List Nat) (i : Nat) (u : Value) (w : World) : Prop := i < (Sha.pad a).length / 64 ∧ ∃ lo hi, Row w lo hi 1 u 64 (ints .u8 (blk a i))
/-- behind the whole blocks of the message -/
def tailOf (a : List Nat) : List Nat := (Sha.pad a).drop (a.length / 64 * 64)
theorem blk_head (a : List Nat) (i : Nat) (h : 64 * i + 64 ≤ a.length) : blk a i = (a.drop (64 * i)).take 64 := by
  unfold blk Sha.pad
  rw [List.append_assoc, List.append_assoc, List.drop_append_of_le_length (by omega), List.take_append_of_le_length (by simp; omega)]
theorem tail_len (a : List Nat) : (tailOf a).length = (Sha.pad a).length - a.length / 64 * 64 := by simp [tailOf]
theorem blk_tail (a : List Nat) (j : Nat) : ((tailOf a).drop (64 * j)).take 64 = blk a (a.length / 64 + j) := by
  unfold tailOf blk
  rw [List.drop_drop, show a.length / 64 * 64 + 64 * j = 64 * (a.length / 64 + j) by omega]
theorem tail_eq (a : List Nat) : tailOf a = a.drop (a.length / 64 * 64) ++ [128] ++ List.replicate (Sha.zeros a.length) 0 ++ Sha.lenBytes a.length := by
  unfold tailOf Sha.pad
  rw [List.append_assoc, List.append_assoc, List.drop_append_of_le_length (by omega), ← List.append_assoc, ← List.append_assoc]

theorem tail_eq' (a : List Nat) : tailOf a = a.drop (64 * (a.length / 64)) ++ [128] ++ List.replicate (Sha.zeros a.length) 0 ++ Sha.lenBytes a.length := by
  rw [tail_eq, Nat.mul_comm]
set_option maxHeartbeats 4000000 in
theorem gblocks (g g1 lo hi : Nat) (v : Value) (a : List Nat) (hl : a.length ≤ 1000000000) (w : World) (hr : Row w lo hi 1 v a.length (ints .u8 a)) (hg : ¬ (lo ≤ g ∧ g < hi)) (hB : Blk w g1 22 [v]) (hg1 : g1 ≠ g) (hgw : g < w.heap.size) :
    Iter Tryd.prog 78 #[.pointer (some ⟨g1, 0, none⟩)] w (PreB a) (KeepBut g) Ext Ext (fun i _ => i = (Sha.pad a).length / 64) := by
  intro l J Jx w1 E1 hJ hJx hY h0
  have hp : (Sha.pad a).length % 64 = 0 := by rw [Sha.pad_len]; have := Sha.pad_mod a.length; omega
  have hzl := zeros_lt a.length
  have hp0 : (Sha.pad a).length ≤ 1000000100 := by rw [Sha.pad_len]; have := zeros_lt a.length; omega
  refine calls_W Tryd.func78 rfl Tryd.ntmps78 rfl ?_
  have hr1 := hr.ext E1
  have hB1 := hB.ext E1
  obtain ⟨_, A0, c0, rfl, hc0, _, _⟩ := id hr
  (refine W_seq ?_; refine W_region ?_; refine Ls (X_ld rfl hB1 rfl) ?_; refine Ls (X_lenSlice rfl) ?_; refine Ls (X_quoi rfl rfl (by omega)) ?_; refine Ls (X_muli rfl rfl (by omega)) ?_; refine Ls (X_assign (v := .int _ _) rfl) ?_; refine L_nil ?_; refine tn ?_; refine W_seq ?_; refine W_seq ?_; refine W_region ?_; refine Ls (X_assign (v := .int _ _) rfl) ?_; refine L_nil ?_; refine tn ?_; refine W_block ?_)
  have e3 : ((a.length : Nat) : Int) / 64 * 64 = ((64 * (a.length / 64) : Nat) : Int) := by omega
  rw [e3]
  have hN : a.length / 64 < (Sha.pad a).length / 64 := by rw [Sha.pad_len]; have := Sha.pad_mod a.length; omega
  refine W_loop (fun q f w' => ∃ k, q = a.length / 64 - k ∧ k ≤ a.length / 64 ∧ f 0 = yieldV l ∧ f 1 = .pointer (some ⟨g1, 0, none⟩) ∧ f 3 = .int .i64 ((64 * (a.length / 64) : Nat) : Int) ∧ f 4 = .int .i64 ((64 * k : Nat) : Int) ∧
    J k w' ∧ Blk w' g1 22 [.slice A0 a.length c0] ∧ Row w' lo hi 1 (.slice A0 a.length c0) a.length (ints .u8 a) ∧ w.heap.size ≤ w'.heap.size) (a.length / 64) ?_ ?_
  · exact ⟨0, rfl, by omega, rfl, rfl, rfl, rfl, h0, hB1, hr1, E1.size⟩
  · clear hB1 hr1 h0 hr hB
    rintro q f wr ⟨k, rfl, hk, h0, h1, h3, h4, hj, hB, hr, hsz⟩
    rw [fold h0, fold h1, fold h3, fold h4]
    (refine W_seq ?_; refine W_seq ?_; refine W_region ?_; refine Ls (X_move (v := .int _ _) rfl) ?_; refine Ls (X_move (v := .int _ _) rfl) ?_; refine Ls (X_lss rfl rfl) ?_; refine L_nil ?_; refine tn ?_)
    refine W_condp rfl (fun h => ?_) (fun h => ?_)
    · have hcut := hr.cut (i := 64 * k) (j := 64 * k + 64) (q := 64) (by omega) (by omega) (by omega)
      rw [← blk_head a k (by omega)] at hcut
      (refine W_skip ?_; refine tn ?_; refine W_seq ?_; refine W_block ?_; refine W_seq ?_; refine W_region ?_; refine Ls (X_move (v := .func _ _ _) rfl) ?_; refine Ls (X_ld rfl hB rfl) ?_; refine Ls (X_move (v := .int _ _) rfl) ?_; refine Ls (X_move (v := .int _ _) rfl) ?_; refine Ls (X_addi rfl rfl (by omega)) ?_)
      refine Ls (X_sliceAB (64 * k) (64 * k + 64) rfl rfl rfl rfl rfl (by omega) (by omega)) ?_
      refine L_yield rfl rfl rfl (hY k _ wr hj ⟨by omega, lo, hi, hcut⟩) ?_
      rintro e w2 (⟨rfl, hj2, hk2⟩ | ⟨rfl, hjx⟩)
      · refine ⟨.bool true, rfl, ?_⟩
        (refine Ls (X_not rfl) ?_; refine L_nil ?_; refine tn ?_; refine W_condF rfl ?_; refine W_skip ?_; refine bn ?_; refine tn ?_; refine W_region ?_; refine Ls (X_move (v := .int _ _) rfl) ?_; refine Ls (X_addi rfl rfl (by omega)) ?_; refine Ls (X_assign (v := .int _ _) rfl) ?_; refine L_nil ?_; refine tn ?_)
        exact ⟨a.length / 64 - (k + 1), by omega, k + 1, rfl, by omega, rfl, rfl, rfl, congrArg (Value.int .i64) (show ((64 * k : Nat) : Int) + 64 = ((64 * (k + 1) : Nat) : Int) by omega), hj2, hk2.blk hB hg1, hk2.row hr hg, Nat.le_trans hsz hk2.size⟩
      · refine ⟨.bool false, rfl, ?_⟩
        (refine Ls (X_not rfl) ?_; refine L_nil ?_; refine tn ?_; refine W_condT rfl ?_; refine W_ret ?_; refine br ?_; refine tr ?_; refine tr ?_; refine br ?_; refine tr ?_)
        refine endQ_ret0 rfl rfl ?_
        exact ⟨⟨_, rfl⟩, .inr hjx⟩
    · obtain rfl : k = a.length / 64 := by omega
      have hcut := hr.cut (i := 64 * (a.length / 64)) (j := a.length) (q := a.length - 64 * (a.length / 64)) (by omega) (by omega) rfl
      rw [List.take_of_length_le (by simp)] at hcut
      (refine W_exit ?_; refine te ?_; refine te ?_; refine bx ?_; refine tn ?_; refine W_seq ?_; refine W_region ?_; refine Ls (X_ld rfl hB rfl) ?_; refine Ls (X_move (v := .int _ _) rfl) ?_)
      refine Ls (X_sliceA (64 * (a.length / 64)) rfl rfl rfl (by omega) (by omega)) ?_
      have hdl : (a.drop (64 * (a.length / 64))).length = a.length - 64 * (a.length / 64) := by simp
      refine L_fo rfl (cloneB lo hi _ (a.drop (64 * (a.length / 64))) (by omega) wr (hcut.re hdl.symm rfl)) ?_
      rintro q1 w2 ⟨E2, o2⟩
      refine L_lit1 (v := .int _ _) rfl rfl ?_
      intro u w3 hru E3 _ _
      refine L_append (v := q1) (u := u) rfl rfl (own_ext o2 E3) hru (by simp [Value.oneCell']) (by omega) (by omega) (by have := E2.size; have := E3.size; omega) ?_
      intro q2 w4 o4 hg4 _
      have E4 : Ext wr w4 := (E2.trans E3).then hg4 (fun g h => (o2.lt g h).1)
      have hj4 := hJ _ _ _ hj E4
      (refine Ls (X_assign (v := q2) rfl) ?_; refine L_nil ?_; refine tn ?_; refine W_seq ?_; refine W_block ?_)
      rw [hdl] at o4
      refine W_loop (fun q f w' => ∃ z v', q = Sha.zeros a.length - z ∧ z ≤ Sha.zeros a.length ∧ f 0 = yieldV l ∧ f 1 = .pointer (some ⟨g1, 0, none⟩) ∧ f 5 = v' ∧ Ext wr w' ∧
        w'.ownsRow wr.heap.size 5 1 v' (a.length - 64 * (a.length / 64) + 1 + z) (ints .u8 (a.drop (64 * (a.length / 64)) ++ [128] ++ List.replicate z 0))) (Sha.zeros a.length) ?_ ?_
      · refine ⟨0, q2, rfl, by omega, rfl, rfl, rfl, E4, ?_⟩
        rw [List.replicate_zero, List.append_nil, ints_app]
        exact o4
      · clear h0 h1 h3 h4 hcut o2 o4 hru
        rintro q f w5 ⟨z, v', rfl, hz, h0, h1, h5, E5, o5⟩
        rw [fold h0, fold h1, fold h5]
        (refine W_seq ?_; refine W_seq ?_; refine W_region ?_; refine Ls (X_move (v := v') rfl) ?_; refine Ls (X_lenRow (v := v') rfl (Row.of_own o5)) ?_; refine Ls (X_remi rfl rfl (by omega)) ?_; refine Ls (X_neq rfl rfl) ?_; refine L_nil ?_; refine tn ?_)
        refine W_condp rfl (fun hc => ?_) (fun hc => ?_)
        · have hz' : z < Sha.zeros a.length := by
            have := Sha.pad_mod a.length
            have := zeros_lt a.length
            refine Nat.lt_of_le_of_ne hz fun e => hc ?_
            subst e
            omega
          (refine W_skip ?_; refine tn ?_; refine W_block ?_; refine W_region ?_; refine Ls (X_move (v := v') rfl) ?_)
          refine L_lit1 (v := .int _ _) rfl rfl ?_
          intro u w6 hru E6 _ _
          refine L_append (v := v') (u := u) rfl rfl (own_ext o5 E6) hru (by simp [Value.oneCell']) (by omega) (by omega) (by have := E5.size; have := E6.size; omega) ?_
          intro q3 w7 o7 hg7 _
          (refine Ls (X_assign (v := q3) rfl) ?_; refine L_nil ?_; refine bn ?_; refine tn ?_)
          refine ⟨Sha.zeros a.length - (z + 1), by omega, z + 1, q3, rfl, by omega, rfl, rfl, rfl, (E5.trans E6).then hg7 (fun g h => (o5.lt g h).1), ?_⟩
          rw [List.replicate_succ', ← List.append_assoc, ints_app _ (a.drop (64 * (a.length / 64)) ++ [128] ++ List.replicate z 0)]
          exact o7
        · have hz' : z = Sha.zeros a.length := by
            have := Sha.pad_mod a.length
            have := zeros_lt a.length
            have : ((a.length - 64 * (a.length / 64) + 1 + z : Nat) : Int) % 64 = 56 := by
              rcases Classical.em (((a.length - 64 * (a.length / 64) + 1 + z : Nat) : Int) % 64 = 56) with h | h
              · exact h
              · exact absurd h hc
            omega
          subst hz'
          have hB5 := hB.ext E5
          (refine W_exit ?_; refine te ?_; refine te ?_; refine bx ?_; refine tn ?_; refine W_seq ?_; refine W_region ?_; refine Ls (X_ld rfl hB5 rfl) ?_; refine Ls (X_lenSlice rfl) ?_; refine Ls (X_conv rfl) ?_; refine Ls (X_mul rfl rfl) ?_; refine Ls (X_assign (v := .int _ _) rfl) ?_; refine L_nil ?_; refine tn ?_; refine W_seq ?_; refine W_seq ?_; refine W_region ?_; refine Ls (X_assign (v := .int _ _) rfl) ?_; refine L_nil ?_; refine tn ?_; refine W_block ?_)
          refine W_loop (fun q f w' => ∃ i v', q = 8 - i ∧ i ≤ 8 ∧ f 0 = yieldV l ∧ f 5 = v' ∧ f 6 = .int .u64 (IntKind.u64.wrap (IntKind.u64.wrap (a.length : Nat) * 8)) ∧ f 7 = .int .i64 (56 - 8 * (i : Int)) ∧ Ext wr w' ∧
            w'.ownsRow wr.heap.size 5 1 v' (a.length - 64 * (a.length / 64) + 1 + Sha.zeros a.length + i) (ints .u8 (a.drop (64 * (a.length / 64)) ++ [128] ++ List.replicate (Sha.zeros a.length) 0 ++ (Sha.lenBytes a.length).take i))) 8 ?_ ?_
          · refine ⟨0, v', rfl, by omega, rfl, rfl, rfl, rfl, E5, ?_⟩
            rw [List.take_zero, List.append_nil]
            exact o5
          · clear h0 h1 h5 o5 hc hB5
            rintro q f w6 ⟨i, v', rfl, hi, h0, h5, h6, h7, E6, o6⟩
            rw [fold h0, fold h5, fold h6, fold h7]
            (refine W_seq ?_; refine W_seq ?_; refine W_region ?_; refine Ls (X_move (v := .int _ _) rfl) ?_; refine Ls (X_geq rfl rfl) ?_; refine L_nil ?_; refine tn ?_)
            refine W_condp rfl (fun hc => ?_) (fun hc => ?_)
            · have hi8 : i < 8 := by omega
              (refine W_skip ?_; refine tn ?_; refine W_seq ?_; refine W_block ?_; refine W_region ?_; refine Ls (X_move (v := v') rfl) ?_; refine Ls (X_move (v := .int _ _) rfl) ?_; refine Ls (X_move (v := .int _ _) rfl) ?_; refine Ls (X_shr rfl rfl (by omega)) ?_; refine Ls (X_conv rfl) ?_)
              refine L_lit1 (v := .int _ _) rfl rfl ?_
              intro u w7 hru E7 _ _
              rw [len_walk _ _ (by omega) hi8] at hru
              refine L_append (v := v') (u := u) rfl rfl (own_ext o6 E7) hru (by simp [Value.oneCell']) (by omega) (by omega) (by have := E6.size; have := E7.size; omega) ?_
              intro q3 w8 o8 hg8 _
              (refine Ls (X_assign (v := q3) rfl) ?_; refine L_nil ?_; refine bn ?_; refine tn ?_; refine W_region ?_; refine Ls (X_move (v := .int _ _) rfl) ?_; refine Ls (X_subi rfl rfl (by omega)) ?_; refine Ls (X_assign (v := .int _ _) rfl) ?_; refine L_nil ?_; refine tn ?_)
              refine ⟨8 - (i + 1), by omega, i + 1, q3, rfl, by omega, rfl, rfl, rfl, congrArg (Value.int .i64) (show 56 - 8 * (i : Int) - 8 = 56 - 8 * ((i + 1 : Nat) : Int) by omega), (E6.trans E7).then hg8 (fun g h => (o6.lt g h).1), ?_⟩
              rw [lenBytes_take _ _ hi8, ← List.append_assoc, ints_app _ (a.drop (64 * (a.length / 64)) ++ [128] ++ List.replicate (Sha.zeros a.length) 0 ++ (Sha.lenBytes a.length).take i)]
              exact o8
            · obtain rfl : i = 8 := by omega
              rw [List.take_of_length_le (by simp [Sha.lenBytes]), ← tail_eq' a] at o6
              have htl : (tailOf a).length = a.length - 64 * (a.length / 64) + 1 + Sha.zeros a.length + 8 := by rw [tail_len, Sha.pad_len]; omega
              have htN : (tailOf a).length = 64 * ((Sha.pad a).length / 64 - a.length / 64) := by rw [tail_len]; omega
              rw [← htl] at o6
              have hj6 := hJ _ _ _ hj E6
              (refine W_exit ?_; refine te ?_; refine te ?_; refine bx ?_; refine tn ?_; refine W_seq ?_; refine W_region ?_; refine Ls (X_assign (v := .int _ _) rfl) ?_; refine L_nil ?_; refine tn ?_; refine W_block ?_)
              refine W_loop (fun q f w' => ∃ j, q = ((Sha.pad a).length / 64 - a.length / 64) - j ∧ j ≤ (Sha.pad a).length / 64 - a.length / 64 ∧ f 0 = yieldV l ∧ f 5 = v' ∧ f 8 = .int .i64 ((64 * j : Nat) : Int) ∧ J (a.length / 64 + j) w' ∧
                w'.ownsRow wr.heap.size 5 1 v' (tailOf a).length (ints .u8 (tailOf a))) ((Sha.pad a).length / 64 - a.length / 64) ?_ ?_
              · exact ⟨0, rfl, by omega, rfl, rfl, rfl, hj6, o6⟩
              · clear h0 h5 h6 h7 o6 hc hj6 E6
                rintro q f w7 ⟨j, rfl, hjn, h0, h5, h8, hj7, o7⟩
                rw [fold h0, fold h5, fold h8]
                have hrow := Row.of_own o7
                (refine W_seq ?_; refine W_seq ?_; refine W_region ?_; refine Ls (X_move (v := .int _ _) rfl) ?_; refine Ls (X_move (v := v') rfl) ?_; refine Ls (X_lenRow (v := v') rfl hrow) ?_; refine Ls (X_lss rfl rfl) ?_; refine L_nil ?_; refine tn ?_)
                refine W_condp rfl (fun hc => ?_) (fun hc => ?_)
                · obtain ⟨_, A1, c1, rfl, hc1, _, _⟩ := id hrow
                  have hcut := hrow.cut (i := 64 * j) (j := 64 * j + 64) (q := 64) (by omega) (by omega) (by omega)
                  rw [blk_tail] at hcut
                  (refine W_skip ?_; refine tn ?_; refine W_seq ?_; refine W_block ?_; refine W_seq ?_; refine W_region ?_; refine Ls (X_move (v := .func _ _ _) rfl) ?_; refine Ls (X_move (v := .slice _ _ _) rfl) ?_; refine Ls (X_move (v := .int _ _) rfl) ?_; refine Ls (X_move (v := .int _ _) rfl) ?_; refine Ls (X_addi rfl rfl (by omega)) ?_)
                  refine Ls (X_sliceAB (64 * j) (64 * j + 64) rfl rfl rfl rfl rfl (by omega) (by omega)) ?_
                  have hlt : a.length / 64 + j < (Sha.pad a).length / 64 := by omega
                  refine L_yield rfl rfl rfl (hY _ _ w7 hj7 ⟨hlt, _, _, hcut⟩) ?_
                  rintro e w8 (⟨rfl, hj8, hk8⟩ | ⟨rfl, hjx⟩)
                  · refine ⟨.bool true, rfl, ?_⟩
                    (refine Ls (X_not rfl) ?_; refine L_nil ?_; refine tn ?_; refine W_condF rfl ?_; refine W_skip ?_; refine bn ?_; refine tn ?_; refine W_region ?_; refine Ls (X_move (v := .int _ _) rfl) ?_; refine Ls (X_addi rfl rfl (by omega)) ?_; refine Ls (X_assign (v := .int _ _) rfl) ?_; refine L_nil ?_; refine tn ?_)
                    exact ⟨((Sha.pad a).length / 64 - a.length / 64) - (j + 1), by omega, j + 1, rfl, by omega, rfl, rfl, congrArg (Value.int .i64) (show ((64 * j : Nat) : Int) + 64 = ((64 * (j + 1) : Nat) : Int) by omega), hj8, hk8.own o7 (by omega)⟩
                  · refine ⟨.bool false, rfl, ?_⟩
                    (refine Ls (X_not rfl) ?_; refine L_nil ?_; refine tn ?_; refine W_condT rfl ?_; refine W_ret ?_; refine br ?_; refine tr ?_; refine tr ?_; refine br ?_)
                    refine endQ_ret0 rfl rfl ?_
                    exact ⟨⟨_, rfl⟩, .inr hjx⟩
                · obtain rfl : j = (Sha.pad a).length / 64 - a.length / 64 := by omega
                  (refine W_exit ?_; refine te ?_; refine te ?_; refine bx ?_)
                  refine endQ_end0 rfl rfl ?_
                  exact ⟨⟨_, rfl⟩, .inl ⟨_, by omega, hj7⟩⟩
end Go.Proofs.YtemodkjmdalmlaaDoor

/- The library's SHA-256. -/
namespace Go.Proofs.YtemodkjmdalmlaaDoor
open Go.RowKit Go.Proofs.K Go.Shelf

theorem dig2_walk (x j : Nat) (hj : j < 4) : IntKind.u8.wrap ((x : Int).fdiv (2 ^ min (24 - 8 * (j : Int)).toNat IntKind.u32.bits)) = ((x / 2 ^ (24 - 8 * j) % 256 : Nat) : Int) := by
  have e : min (24 - 8 * (j : Int)).toNat IntKind.u32.bits = 24 - 8 * j := by
    have : IntKind.u32.bits = 32 := rfl
    omega
  rw [e, fdiv_nat, u8_nat]
theorem gblocksMk (v : Value) (w : World) (h1 : v.oneCell' = true) : Calls Tryd.prog 64 #[v] w fun e w' => ∃ q, e = .returned q ∧ ∃ g1, q = .func (.func 78) #[] #[.pointer (some ⟨g1, 0, none⟩)] ∧ Ext w w' ∧ Blk w' g1 22 [v] ∧ w.heap.size ≤ g1 := by
  refine calls_W Tryd.func64 rfl Tryd.ntmps64 rfl ?_
  (refine W_seq ?_; refine W_region ?_)
  refine L_box1 rfl h1 ?_
  intro g1 w1 B1 hg1 E1 hs1
  (refine Ls (X_assign (v := Value.nilFunc) rfl) ?_; refine L_nil ?_; refine tn ?_; refine W_seq ?_; refine W_region ?_)
  refine Ls (X_mkFunc (fi := []) (ca := [.tmp 1]) rfl rfl) ?_
  (refine Ls (X_assign (v := .func _ _ _) rfl) ?_; refine L_nil ?_; refine tn ?_; refine W_ret ?_)
  refine endQ_ret1 rfl rfl (v := .func _ _ _) rfl ?_
  exact ⟨_, rfl, g1, rfl, E1, B1, by omega⟩
set_option maxHeartbeats 4000000 in
theorem gsum (lo hi : Nat) (v : Value) (a : List Nat) (ha8 : Sha.bytesOk a) (hl : a.length ≤ 1000000000) (w : World) (hr : Row w lo hi 1 v a.length (ints .u8 a))
    (hk : Rng w 1 (ints .u32 Sha.ks)) (hi0 : Rng w 0 (ints .u32 Sha.iv.list)) :
    Calls Tryd.prog 53 #[v] w fun e w' => e = .returned (.agg (ints .u8 (Sha.sum a)).toArray) ∧ Ext w w' := by
  have hp : (Sha.pad a).length % 64 = 0 := by rw [Sha.pad_len]; have := Sha.pad_mod a.length; omega
  have hp8 : Sha.bytesOk (Sha.pad a) := by
    intro x hx
    simp only [Sha.pad, List.mem_append, List.mem_singleton] at hx
    rcases hx with ((hx | rfl) | hx) | hx
    · exact ha8 x hx
    · omega
    · rw [List.eq_of_mem_replicate hx]; omega
    · obtain ⟨i, _, rfl⟩ := List.mem_map.1 hx
      exact Nat.mod_lt _ (by omega)
  refine calls_T Tryd.func53 rfl Tryd.ntmps53 rfl ?_
  refine T_seq ?_
  (refine W_region ?_)
  refine L_alloc ?_
  intro g2 w1 B2 hg2 E1 hs1
  (refine L_nil ?_; refine tn ?_)
  refine T_seq ?_
  (refine W_region ?_; refine Ls (X_ldWg rfl (hi0.ext E1) rfl) ?_)
  refine L_alloc ?_
  intro g3 w2 B3 hg3 E2 hs2
  refine L_storeW (l := ints .u32 Sha.iv.list) rfl rfl rfl ints_cell B3 rfl ?_
  intro w3 B3' hg3' hs3
  (refine L_nil ?_; refine tn ?_)
  refine T_seq2 ?_
  (refine W_region ?_; refine Ls (X_move (v := v) rfl) ?_)
  refine L_fo rfl (gblocksMk v w3 (by obtain ⟨_, _, _, rfl, _⟩ := hr; rfl)) ?_
  rintro q w4 ⟨g1, rfl, E4, hB1, hg1⟩
  (refine L_nil ?_; refine tn ?_)
  have hz1 := E1.size
  have hz2 := E2.size
  have hz4 := E4.size
  have Ea : Ext w w4 := ((E1.trans E2).then hg3' (fun g h => by cases h; omega)).trans E4
  have G3 := B3'.ext E4
  have G2 := ((B2.ext E2).grown hg3' (by simp; omega)).ext E4
  have hr4 := (hr.tight).ext Ea
  have hlt4 : g3 < w4.heap.size := G3.lt
  have hlt1 : g1 < w4.heap.size := hB1.lt
  have hkg : 1 < w.heap.size := hk.lt (by decide)
  refine T_range (Kp := KeepBut g3) (It := Ext) (Ix := Ext) rfl (enters_of Tryd.func78 (by kernel_rfl) rfl) (gblocks g3 g1 lo w.heap.size v a hl w4 hr4 (by omega) hB1 (by omega) hlt4) (fun _ _ _ h k => h.trans k) (fun _ _ _ o' _ h hc => KeepBut.put o' h hc)
    (fun _ _ E => ⟨E.size, fun k o _ hk _ => (E.block k (Array.getElem?_eq_some_iff.1 hk).1 (by simp)).trans hk⟩)
    (fun _ _ E => ⟨E.size, fun k o _ hk _ => (E.block k (Array.getElem?_eq_some_iff.1 hk).1 (by simp)).trans hk⟩)
    (fun i b => Blk b g3 99 (ints .u32 (Sha.blocks (Sha.pad a) i).list) ∧ w4.grownBy b (some g3)) (fun _ => False)
    (fun i x y h E => ⟨h.1.ext E, grown_trans' h.2 E (fun _ h => by cases h)⟩) (fun i x y h hb => ⟨(hb.keep (g := g3 + 1)).blk h.1 (by omega), ?_⟩) (fun _ _ h _ => h) (fun _ _ h _ => h)
    (fun i u x y h hb => ⟨h.1, ?_⟩) (fun _ _ _ h _ => h) ⟨G3, ⟨rfl, rfl, rfl, Nat.le_refl _, fun _ _ _ => rfl⟩⟩ (fun F u => upd (upd F 12 u) 4 u) (fun l u x => ?_) (fun l i u x hx hu => ?_) (fun D b hD hdn hbD => ?_)
  · obtain ⟨row, hg, hrw⟩ := hb
    exact grown_trans' h.2 hg (fun r e => .inr (hrw r e).1)
  · obtain ⟨_, l1, l2, hrow⟩ := h
    exact ⟨l1, l2, (hb.keep (g := l2)).row hrow (by omega)⟩
  · (refine W_region ?_; refine Ls (X_assign (v := u) rfl) ?_; refine L_nil ?_)
    exact ⟨rfl, rfl, rfl⟩
  · obtain ⟨hxB, hxg⟩ := hx
    obtain ⟨hiN, l1, l2, hrow⟩ := hu
    have hbl : (blk a i).length = 64 := by unfold blk; simp; omega
    (refine W_block ?_; refine W_region ?_; refine Ls (X_move (v := u) rfl) ?_)
    refine L_fn (gcompress g3 l1 l2 u (Sha.blocks (Sha.pad a) i) (Sha.blocks_ok _ _) (blk a i) hbl (fun x hx => hp8 x (List.mem_of_mem_drop (List.mem_of_mem_take hx))) x hrow hxB ((hk.ext Ea).grown hxg (by simp; omega))) rfl ?_
    rintro e y ⟨rfl, hyB, hyg⟩
    refine ⟨_, rfl, ?_⟩
    (refine L_nil ?_; refine bn ?_)
    exact ⟨KeepsFrom.of_grownBy hyg (fun j h => by cases h; omega), KeepBut.of hyg (fun r e => by cases e; exact .inl rfl), hyB, grown_trans' hxg hyg (fun r e => by cases e; exact .inl rfl)⟩
  · obtain ⟨i, rfl, hbB, hbg⟩ : ∃ i, i = (Sha.pad a).length / 64 ∧ Blk b g3 99 (ints .u32 (Sha.blocks (Sha.pad a) i).list) ∧ w4.grownBy b (some g3) := hdn.elim id False.elim
    have hDb : D < b.heap.size := (Array.getElem?_eq_some_iff.1 hbD).1
    refine T_of_W ?_
    (refine W_seq ?_; refine W_region ?_)
    obtain ⟨S, hS⟩ : ∃ S, S = Sha.blocks (Sha.pad a) ((Sha.pad a).length / 64) := ⟨_, rfl⟩
    have hfin : Sha.sum a = Sha.digest S := by rw [hS]; rfl
    rw [← hS] at hbB
    rw [hfin]
    clear hS hfin
    refine L_alloc ?_
    intro g5 b1 B5 hg5 F1 hs5
    rw [show (0 : Int) = ((0 : Nat) : Int) from rfl, ints_rep] at B5
    have E5 : w4.grownBy b1 (some g3) := grown_trans' hbg F1 (fun _ h => by cases h)
    have C2 := (G2.grown hbg (by simp; omega)).ext F1
    have hbz := hbg.size
    (refine L_nil ?_; refine tn ?_; refine W_seq ?_; refine W_seq ?_; refine W_region ?_; refine Ls (X_ldW rfl (hbB.ext F1) rfl) ?_; refine Ls (X_move (v := .int _ _) rfl) ?_; refine L_nil ?_; refine tn ?_; refine W_block ?_)
    have hdl := Sha.digest_len S
    refine W_loop (fun q f w' => ∃ i, q = 8 - i ∧ i ≤ 8 ∧ f 2 = .pointer (some ⟨g2, 0, none⟩) ∧ f 5 = .pointer (some ⟨g5, 0, none⟩) ∧ f 15 = .agg (ints .u32 S.list).toArray ∧ f 16 = .int .i64 (i : Nat) ∧ Ext b w' ∧
      Blk w' g2 32 (List.replicate 32 [Value.int IntKind.u8 0]).flatten ∧ Blk w' g5 32 (ints .u8 ((Sha.digest S).take (4 * i) ++ List.replicate (32 - 4 * i) 0))) 8 ?_ ?_
    · exact ⟨0, rfl, by omega, rfl, rfl, rfl, rfl, F1, C2, B5⟩
    · clear C2 B5
      rintro q f wr ⟨i, rfl, hi, h2, h5, h15, h16, E, D2, D5⟩
      rw [fold h2, fold h5, fold h15, fold h16]
      (refine W_seq ?_; refine W_region ?_; refine Ls (X_lss rfl rfl) ?_; refine L_nil ?_; refine tn ?_; refine W_seq ?_)
      refine W_condp rfl (fun h => ?_) (fun h => ?_)
      · (refine W_skip ?_; refine tn ?_; refine W_seq ?_; refine W_block ?_; refine W_seq ?_; refine W_region ?_; refine Ls (X_move (v := .int _ _) rfl) ?_)
        refine Ls (X_indexVI (i := i) (len := 8) rfl rfl (by omega) rfl) ?_
        (refine Ls (X_assign (v := .int _ _) rfl) ?_; refine Ls (X_assign (v := .int _ _) rfl) ?_; refine L_nil ?_; refine tn ?_; refine W_seq ?_; refine W_region ?_; refine Ls (X_move (v := .int _ _) rfl) ?_; refine L_nil ?_; refine tn ?_; refine W_block ?_)
        refine W_loop (fun q f w' => ∃ j, q = 4 - j ∧ j ≤ 4 ∧ f 2 = .pointer (some ⟨g2, 0, none⟩) ∧ f 5 = .pointer (some ⟨g5, 0, none⟩) ∧ f 15 = .agg (ints .u32 S.list).toArray ∧ f 16 = .int .i64 (i : Nat) ∧ f 6 = .int .i64 (i : Nat) ∧ f 7 = .int .u32 ((S.list.getD i 0 : Nat) : Int) ∧ f 20 = .int .i64 (j : Nat) ∧ Ext b w' ∧
          Blk w' g2 32 (List.replicate 32 [Value.int IntKind.u8 0]).flatten ∧ Blk w' g5 32 (ints .u8 ((Sha.digest S).take (4 * i + j) ++ List.replicate (32 - (4 * i + j)) 0))) 4 ?_ ?_
        · exact ⟨0, rfl, by omega, rfl, rfl, rfl, rfl, rfl, rfl, rfl, E, D2, D5⟩
        · clear D2 D5 E h2 h5 h15 h16
          rintro q f wx ⟨j, rfl, hj, h2, h5, h15, h16, h6, h7, h20, E, D2, D5⟩
          rw [fold h2, fold h5, fold h15, fold h16, fold h6, fold h7, fold h20]
          have htl : ((Sha.digest S).take (4 * i + j)).length = 4 * i + j := by rw [List.length_take, hdl]; omega
          (refine W_seq ?_; refine W_region ?_; refine Ls (X_lss rfl rfl) ?_; refine L_nil ?_; refine tn ?_; refine W_seq ?_)
          refine W_condp rfl (fun h => ?_) (fun h => ?_)
          · (refine W_skip ?_; refine tn ?_; refine W_seq ?_; refine W_block ?_; refine W_seq ?_; refine W_region ?_; refine Ls (X_move (v := .int _ _) rfl) ?_; refine Ls (X_assign (v := .int _ _) rfl) ?_; refine L_nil ?_; refine tn ?_; refine W_region ?_; refine Ls (X_move (v := .int _ _) rfl) ?_; refine Ls (X_muli rfl rfl (by omega)) ?_; refine Ls (X_move (v := .int _ _) rfl) ?_; refine Ls (X_addi rfl rfl (by omega)) ?_; refine Ls (X_move (v := .int _ _) rfl) ?_; refine Ls (X_move (v := .int _ _) rfl) ?_; refine Ls (X_muli rfl rfl (by omega)) ?_; refine Ls (X_subi rfl rfl (by omega)) ?_; refine Ls (X_shr rfl rfl (by omega)) ?_; refine Ls (X_conv rfl) ?_; refine Ls (X_indexA rfl rfl (by omega)) ?_)
            refine L_store1 rfl (v := .int _ _) rfl rfl D5 (by rw [ints_len, List.length_append, htl, List.length_replicate]; omega) ?_
            intro w5 B5 hg5' _
            (refine L_nil ?_; refine bn ?_; refine tn ?_; refine W_region ?_; refine Ls (X_addi rfl rfl (by omega)) ?_; refine Ls (X_move (v := .int _ _) rfl) ?_; refine L_nil ?_; refine tn ?_)
            have hkl : 4 * i + j < (Sha.digest S).length := by omega
            rw [show (0 + (4 * (i : Int) + (j : Int)).toNat * 1) = 4 * i + j by omega, dig2_walk _ j (by omega), ints_set, show 32 - (4 * i + j) = (32 - (4 * i + (j + 1))) + 1 by omega, tab_set _ _ _ _ htl.symm] at B5
            refine ⟨4 - (j + 1), by omega, j + 1, rfl, by omega, rfl, rfl, rfl, rfl, rfl, rfl, rfl, E.then hg5' (fun g h => by cases h; omega), D2.grown hg5' (by simp; omega), ?_⟩
            have e : (Sha.digest S).take (4 * i + (j + 1)) = (Sha.digest S).take (4 * i + j) ++ [S.list.getD i 0 / 2 ^ (24 - 8 * j) % 256] := by
              rw [show 4 * i + (j + 1) = (4 * i + j) + 1 by omega, List.take_succ_eq_append_getElem hkl]
              simp only [Sha.digest, List.getElem_map, List.getElem_range]
              rw [show (4 * i + j) / 4 = i by omega, show (4 * i + j) % 4 = j by omega]
            rw [e]
            exact B5
          · obtain rfl : j = 4 := by omega
            (refine W_exit ?_; refine te ?_; refine te ?_; refine bx ?_; refine bn ?_; refine tn ?_; refine W_region ?_; refine Ls (X_addi rfl rfl (by omega)) ?_; refine Ls (X_move (v := .int _ _) rfl) ?_; refine L_nil ?_; refine tn ?_)
            exact ⟨8 - (i + 1), by omega, i + 1, rfl, by omega, rfl, rfl, rfl, rfl, E, D2, by rw [show 4 * (i + 1) = 4 * i + 4 by omega]; exact D5⟩
      · obtain rfl : i = 8 := by omega
        have hfull : (Sha.digest S).take (4 * 8) ++ List.replicate (32 - 4 * 8) 0 = Sha.digest S := by simp [List.take_of_length_le (show (Sha.digest S).length ≤ 32 by omega)]
        rw [hfull] at D5
        (refine W_exit ?_; refine te ?_; refine te ?_; refine bx ?_; refine tn ?_; refine W_seq ?_; refine W_region ?_; refine Ls (X_ldW rfl D5 (by rw [ints_len, hdl])) ?_)
        refine L_storeW (size := 32) rfl rfl (by rw [ints_len, hdl]) ints_cell D2 rfl ?_
        intro w8 B8 hg8 _
        (refine L_nil ?_; refine tn ?_; refine W_ret ?_)
        have hD8 : w8.heap[D]? = some (.deferred (some [])) := (hg8.block D (by have := E.size; omega) (by simp; omega)).trans ((E.block D hDb (by simp)).trans hbD)
        have B9 := (KeepBut.put (g := g2 + 1) (.deferred none) hD8 rfl).blk B8 (by omega)
        refine endQ_resD rfl rfl hD8 (Res.cellA inferInstance rfl (B9.range (fun j u h => by simpa using h)) (by rw [ints_len, hdl]) .nil) ?_
        have hE8 : Ext w w8 := ((Ea.then hbg (fun g h => by cases h; omega)).trans E).then hg8 (fun g h => by cases h; omega)
        exact ⟨rfl, hE8.then (grownBy_putObj' w8 D _) (fun g h => by cases h; omega)⟩
end Go.Proofs.YtemodkjmdalmlaaDoor

/- Slices of bytes: room for n. -/
namespace Go.Proofs.YtemodkjmdalmlaaDoor
open Go.RowKit Go.Proofs.K

theorem own_zero {w : World} {base g m c : Nat} {e : TypeId} {xs : List Value} (h : w.ownsRow base e 1 (.slice (some ⟨g, 0, none⟩) m c) m xs) : w.ownsRow base e 1 (.slice (some ⟨g, 0, none⟩) 0 c) 0 [] := by
  obtain ⟨_, h | ⟨g', cap, cur, he, h1, h2, h3, h4, h5, h6⟩⟩ := h
  · cases h.1
  · injection he with e1 _ e2
    injection e1 with e1
    injection e1 with e1
    subst e1; subst e2
    exact ⟨rfl, .inr ⟨_, _, cur, rfl, h1, h2, Nat.zero_le _, h4, h5, by simp⟩⟩
set_option maxHeartbeats 1000000 in
theorem growB (m : Nat) (hm : m ≤ 1000000000) (w : World) :
    Calls Tryd.prog 77 #[.slice none 0 0, .int .i64 (m : Nat)] w fun e w' => ∃ q, e = .returned q ∧ Ext w w' ∧ w'.ownsRow w.heap.size 5 1 q 0 [] := by
  refine calls_W Tryd.func77 rfl Tryd.ntmps77 rfl ?_
  (refine W_seq ?_; refine W_region ?_; refine Ls (X_assign (v := .slice _ _ _) rfl) ?_; refine L_nil ?_; refine tn ?_; refine W_seq ?_; refine W_seq ?_; refine W_region ?_; refine Ls (X_move (v := .int _ _) rfl) ?_; refine Ls (X_lss rfl rfl) ?_; refine L_nil ?_; refine tn ?_)
  refine W_condp rfl (fun h => ?_) (fun h => ?_)
  · omega
  · (refine W_skip ?_; refine tn ?_; refine W_seq ?_; refine W_seq ?_; refine W_region ?_; refine Ls (X_move (v := .int _ _) rfl) ?_; refine Ls (X_move (v := .slice _ _ _) rfl) ?_)
    refine Ls (X_cap rfl) ?_
    (refine Ls (X_move (v := .slice _ _ _) rfl) ?_; refine Ls (X_lenSlice rfl) ?_; refine Ls (X_subi rfl rfl (by omega)) ?_; refine Ls (X_subi rfl rfl (by omega)) ?_; refine Ls (X_assign (v := .int _ _) rfl) ?_; refine L_nil ?_; refine tn ?_; refine W_seq ?_; refine W_region ?_; refine Ls (X_move (v := .int _ _) rfl) ?_; refine Ls (X_gtr rfl rfl) ?_; refine L_nil ?_; refine tn ?_)
    refine W_condp rfl (fun h => ?_) (fun h => ?_)
    · (refine W_region ?_; refine Ls (X_move (v := .slice _ _ _) rfl) ?_; refine Ls (X_move (v := .slice _ _ _) rfl) ?_)
      refine Ls (X_cap rfl) ?_
      refine Ls (X_sliceB 0 rfl rfl rfl (by omega)) ?_
      (refine Ls (X_move (v := .int _ _) rfl) ?_)
      refine L_appendZ (m := m) (z := .int .u8 0) rfl rfl (congrArg (Value.int .i64) (by omega)) (by omega) hm ?_
      intro c w1 E1 hc hcm ⟨xs, hx, o1⟩
      (refine Ls (X_move (v := .slice _ _ _) rfl) ?_; refine Ls (X_lenSlice rfl) ?_)
      refine Ls (X_sliceB 0 rfl rfl rfl (by omega)) ?_
      (refine Ls (X_assign (v := .slice _ _ _) rfl) ?_; refine L_nil ?_; refine tn ?_; refine W_seq ?_; refine W_region ?_; refine Ls (X_move (v := .slice _ _ _) rfl) ?_; refine Ls (X_assign (v := .slice _ _ _) rfl) ?_; refine L_nil ?_; refine tn ?_; refine W_ret ?_)
      refine endQ_ret1 rfl rfl (v := .slice _ _ _) rfl ?_
      have hc0 : c ≠ 0 := by omega
      refine ⟨_, rfl, E1, ?_⟩
      have := own_zero o1
      simpa [hc0, Addr.add_mid] using this
    · (refine W_skip ?_; refine tn ?_; refine W_seq ?_; refine W_region ?_; refine Ls (X_move (v := .slice _ _ _) rfl) ?_; refine Ls (X_assign (v := .slice _ _ _) rfl) ?_; refine L_nil ?_; refine tn ?_; refine W_ret ?_)
      refine endQ_ret1 rfl rfl (v := .slice _ _ _) rfl ?_
      exact ⟨_, rfl, Ext.refl w, ⟨rfl, .inl ⟨rfl, rfl⟩⟩⟩
end Go.Proofs.YtemodkjmdalmlaaDoor

/- Slices of bytes: concatenation. -/
namespace Go.Proofs.YtemodkjmdalmlaaDoor
open Go.RowKit Go.Proofs.K

/-- the first i parts, joined -/
def cat (ps : List (Value × List Nat)) (i : Nat) : List Nat := ((ps.take i).map (·.2)).flatten
theorem cat_succ {ps : List (Value × List Nat)} {i : Nat} {p : Value × List Nat} (h : ps[i]? = some p) : cat ps (i + 1) = cat ps i ++ p.2 := by
  unfold cat
  rw [List.take_add_one, h]
  simp
theorem cat_mono (ps : List (Value × List Nat)) (i : Nat) : (cat ps i).length ≤ (cat ps (i + 1)).length := by
  cases h : ps[i]? with
  | none =>
    unfold cat
    rw [List.take_add_one, h]; simp
  | some p => rw [cat_succ h]; simp
theorem cat_le (ps : List (Value × List Nat)) {i j : Nat} (h : i ≤ j) : (cat ps i).length ≤ (cat ps j).length := by
  induction j with
  | zero => obtain rfl : i = 0 := by omega
            exact Nat.le_refl _
  | succ j ih =>
    by_cases hij : i = j + 1
    · subst hij; exact Nat.le_refl _
    · exact Nat.le_trans (ih (by omega)) (cat_mono ps j)
def Parted (w : World) (ps : List (Value × List Nat)) : Prop := ∀ p, p ∈ ps → ∃ lo hi, Row w lo hi 1 p.1 p.2.length (ints .u8 p.2)
theorem Parted.ext {w w' : World} {ps : List (Value × List Nat)} (h : Parted w ps) (E : Ext w w') : Parted w' ps := fun p hp => by
  obtain ⟨lo, hi, hr⟩ := h p hp
  exact ⟨lo, hi, hr.ext E⟩
set_option maxHeartbeats 4000000 in
theorem concatB (lo hi : Nat) (v : Value) (ps : List (Value × List Nat)) (hl : (cat ps ps.length).length ≤ 1000000000) (hn : ps.length ≤ 1000) (w : World) (hr : Row w lo hi 1 v ps.length (ps.map (·.1))) (hp : Parted w ps) :
    Calls Tryd.prog 63 #[v] w fun e w' => ∃ q, e = .returned q ∧ Ext w w' ∧ w'.ownsRow w.heap.size 5 1 q (cat ps ps.length).length (ints .u8 (cat ps ps.length)) := by
  refine calls_W Tryd.func63 rfl Tryd.ntmps63 rfl ?_
  obtain ⟨hl0, A, c, rfl, hc, hcm, hnn⟩ := hr
  (refine W_seq ?_; refine W_region ?_; refine Ls (X_assign (v := .slice _ _ _) rfl) ?_; refine L_nil ?_; refine tn ?_; refine W_seq ?_; refine W_region ?_; refine Ls (X_assign (v := .int _ _) rfl) ?_; refine L_nil ?_; refine tn ?_; refine W_seq ?_; refine W_seq ?_; refine W_region ?_; refine Ls (X_move (v := .slice _ _ _) rfl) ?_; refine Ls (X_lenSlice rfl) ?_; refine Ls (X_move (v := .int _ _) rfl) ?_; refine L_nil ?_; refine tn ?_; refine W_block ?_)
  refine W_loop (fun q f w' => ∃ i, q = ps.length - i ∧ i ≤ ps.length ∧ w = w' ∧ f 0 = .slice A ps.length c ∧ f 3 = .int .i64 ((cat ps i).length : Nat) ∧ f 9 = .slice A ps.length c ∧ f 10 = .int .i64 (ps.length : Nat) ∧ f 11 = .int .i64 (i : Nat)) ps.length ?_ ?_
  · exact ⟨0, rfl, by omega, rfl, rfl, rfl, rfl, rfl, rfl⟩
  · rintro q f w' ⟨i, rfl, hi, rfl, h0, h3, h9, h10, h11⟩
    rw [fold h0, fold h3, fold h9, fold h10, fold h11]
    (refine W_seq ?_; refine W_region ?_; refine Ls (X_lss rfl rfl) ?_; refine L_nil ?_; refine tn ?_; refine W_seq ?_)
    refine W_condp rfl (fun h => ?_) (fun h => ?_)
    · have hi' : i < ps.length := by omega
      obtain ⟨b, o, rfl, hb1, hb2, hcell⟩ := hnn (by omega)
      obtain ⟨p, hpi⟩ : ∃ p, ps[i]? = some p := ⟨ps[i], List.getElem?_eq_getElem hi'⟩
      obtain ⟨plo, phi, prow⟩ := hp p (List.mem_of_getElem? hpi)
      obtain ⟨pv, pl⟩ := p
      have hle := cat_le ps (show i + 1 ≤ ps.length by omega)
      have hsu := congrArg List.length (cat_succ hpi)
      rw [List.length_append] at hsu
      dsimp only at hsu prow
      (refine W_skip ?_; refine tn ?_; refine W_seq ?_; refine W_block ?_; refine W_seq ?_; refine W_region ?_; refine Ls (X_indexSn rfl rfl (by omega)) ?_; refine Ls (X_ldR (j := i) (v := pv) rfl hcell (by omega) (by simp [hpi])) ?_; refine Ls (X_assign (v := pv) rfl) ?_; refine L_nil ?_; refine tn ?_; refine W_seq ?_; refine W_region ?_; refine Ls (X_move (v := .int _ _) rfl) ?_; refine Ls (X_move (v := pv) rfl) ?_; refine Ls (X_lenRow (v := pv) rfl prow) ?_; refine Ls (X_addi rfl rfl (by omega)) ?_; refine Ls (X_assign (v := .int _ _) rfl) ?_; refine L_nil ?_; refine tn ?_; refine W_seq ?_; refine W_region ?_; refine Ls (X_move (v := .int _ _) rfl) ?_; refine Ls (X_lss rfl rfl) ?_; refine L_nil ?_; refine tn ?_)
      refine W_condp rfl (fun h => ?_) (fun h => ?_)
      · omega
      · (refine W_skip ?_; refine bn ?_; refine tn ?_; refine W_region ?_; refine Ls (X_addi rfl rfl (by omega)) ?_; refine Ls (X_move (v := .int _ _) rfl) ?_; refine L_nil ?_; refine tn ?_)
        refine ⟨ps.length - (i + 1), by omega, i + 1, rfl, by omega, rfl, rfl, ?_, rfl, rfl, rfl⟩
        exact congrArg (Value.int .i64) (by omega)
    · obtain rfl : i = ps.length := by omega
      (refine W_exit ?_; refine te ?_; refine te ?_; refine bx ?_; refine tn ?_; refine W_seq ?_; refine W_region ?_; refine Ls (X_move (v := .int _ _) rfl) ?_)
      refine L_fo rfl (growB _ hl w) ?_
      rintro q2 w2 ⟨E2, o2⟩
      (refine Ls (X_assign (v := q2) rfl) ?_; refine L_nil ?_; refine tn ?_; refine W_seq ?_; refine W_seq ?_; refine W_region ?_; refine Ls (X_move (v := .slice _ _ _) rfl) ?_; refine Ls (X_lenSlice rfl) ?_; refine Ls (X_move (v := .int _ _) rfl) ?_; refine L_nil ?_; refine tn ?_; refine W_block ?_)
      refine W_loop (fun q f w' => ∃ i v', q = ps.length - i ∧ i ≤ ps.length ∧ Ext w w' ∧ w'.ownsRow w.heap.size 5 1 v' (cat ps i).length (ints .u8 (cat ps i)) ∧ f 6 = v' ∧ f 25 = .slice A ps.length c ∧ f 26 = .int .i64 (ps.length : Nat) ∧ f 27 = .int .i64 (i : Nat)) ps.length ?_ ?_
      · exact ⟨0, q2, rfl, by omega, E2, o2, rfl, rfl, rfl, rfl⟩
      · clear h0 h3 h9 h10 h11 h hi o2 E2
        rintro q f w3 ⟨i, v', rfl, hi, E3, o3, h6, h25, h26, h27⟩
        rw [fold h6, fold h25, fold h26, fold h27]
        (refine W_seq ?_; refine W_region ?_; refine Ls (X_lss rfl rfl) ?_; refine L_nil ?_; refine tn ?_; refine W_seq ?_)
        refine W_condp rfl (fun h => ?_) (fun h => ?_)
        · have hi' : i < ps.length := by omega
          obtain ⟨b, o, rfl, hb1, hb2, hcell⟩ := hnn (by omega)
          obtain ⟨p, hpi⟩ : ∃ p, ps[i]? = some p := ⟨ps[i], List.getElem?_eq_getElem hi'⟩
          obtain ⟨plo, phi, prow⟩ := hp p (List.mem_of_getElem? hpi)
          obtain ⟨pv, pl⟩ := p
          have hle := cat_le ps (show i + 1 ≤ ps.length by omega)
          have hsu := congrArg List.length (cat_succ hpi)
          rw [List.length_append] at hsu
          dsimp only at hsu prow
          (refine W_skip ?_; refine tn ?_; refine W_seq ?_; refine W_block ?_; refine W_seq ?_; refine W_region ?_; refine Ls (X_indexSn rfl rfl (by omega)) ?_; refine Ls (X_ldR (j := i) (v := pv) rfl (E3.range hcell) (by omega) (by simp [hpi])) ?_; refine Ls (X_assign (v := pv) rfl) ?_; refine L_nil ?_; refine tn ?_; refine W_region ?_; refine Ls (X_move (v := v') rfl) ?_; refine Ls (X_move (v := pv) rfl) ?_)
          refine L_append (v := v') (u := pv) rfl rfl o3 (prow.ext E3) ints_cell (by omega) (by omega) (by have := E3.size; omega) ?_
          intro q4 w4 o4 hg4 _
          (refine Ls (X_assign (v := q4) rfl) ?_; refine L_nil ?_; refine bn ?_; refine tn ?_; refine W_region ?_; refine Ls (X_addi rfl rfl (by omega)) ?_; refine Ls (X_move (v := .int _ _) rfl) ?_; refine L_nil ?_; refine tn ?_)
          refine ⟨ps.length - (i + 1), by omega, i + 1, q4, rfl, by omega, E3.then hg4 (fun g h => (o3.lt g h).1), ?_, rfl, rfl, rfl, rfl⟩
          rw [hsu, cat_succ hpi, ints_app]
          exact o4
        · obtain rfl : i = ps.length := by omega
          (refine W_exit ?_; refine te ?_; refine te ?_; refine bx ?_; refine tn ?_; refine W_seq ?_; refine W_region ?_; refine Ls (X_move (v := v') rfl) ?_; refine Ls (X_assign (v := v') rfl) ?_; refine L_nil ?_; refine tn ?_; refine W_ret ?_)
          refine endQ_ret1 rfl rfl (v := v') rfl ?_
          exact ⟨v', rfl, E3, o3⟩
end Go.Proofs.YtemodkjmdalmlaaDoor

/- The transcript as lists of numbers. -/
namespace Go.Proofs.Tr
open Go.Proofs Go.Proofs.K

def head : List Nat := [97, 116, 116, 101, 115, 116, 111, 114, 0]
/-- what each hash begins with: the state, the kind, the label with its length -/
def pre (s : List Nat) (tag : Nat) (lab : List Nat) : List Nat := s ++ [tag, lab.length % 256] ++ lab
def new (lab : List Nat) : List Nat := Sha.sum (head ++ lab)
def absorb (s lab b : List Nat) : List Nat := Sha.sum (pre s 1 lab ++ word b.length 8 ++ b)
def output (s : List Nat) (c tag : Nat) (lab : List Nat) : List Nat := Sha.sum (pre s tag lab ++ word c 8)
def leVal : List Nat → Nat
  | [] => 0
  | x :: l => x + 256 * leVal l
def valAt (l : List Nat) (i : Nat) : Nat := leVal ((l.drop i).take 8)
def pr : Nat := 18446744069414584321

theorem leVal_lt {l : List Nat} (h : ∀ x ∈ l, x < 256) : leVal l < 256 ^ l.length := by
  induction l with
  | nil => simp [leVal]
  | cons x l ih =>
    have h1 := h x (by simp)
    have h2 := ih (fun y hy => h y (by simp [hy]))
    simp only [leVal, List.length_cons, Nat.pow_succ]
    omega
theorem leVal_app (a b : List Nat) : leVal (a ++ b) = leVal a + 256 ^ a.length * leVal b := by
  induction a with
  | nil => simp [leVal]
  | cons x a ih =>
    simp only [List.cons_append, leVal, ih, List.length_cons, Nat.pow_succ, Nat.mul_add, Nat.mul_assoc, Nat.mul_comm, Nat.add_assoc]
theorem valAt_lt {l : List Nat} (h : ∀ x ∈ l, x < 256) (i : Nat) : valAt l i < 18446744073709551616 := by
  have h1 : leVal ((l.drop i).take 8) < 256 ^ ((l.drop i).take 8).length := leVal_lt (fun x hx => h x (List.mem_of_mem_drop (List.mem_of_mem_take hx)))
  have h2 : 256 ^ ((l.drop i).take 8).length ≤ 256 ^ 8 := Nat.pow_le_pow_right (by omega) (by simp; omega)
  unfold valAt
  omega
/-- the bytes from k on, below the eighth -/
theorem valAt_step (l : List Nat) (i k : Nat) (hk : k < 8) (hl : i + 8 ≤ l.length) : leVal (((l.drop i).take 8).drop k) = l.getD (i + k) 0 + 256 * leVal (((l.drop i).take 8).drop (k + 1)) := by
  have hlt : k < ((l.drop i).take 8).length := by simp; omega
  rw [List.drop_eq_getElem_cons hlt, leVal]
  have h2 : i + k < l.length := by omega
  simp [List.getD, h2]
theorem drop_lt {l : List Nat} (h : ∀ x ∈ l, x < 256) (i k : Nat) (hk : k ≤ 8) : leVal (((l.drop i).take 8).drop k) < 256 ^ (8 - k) := by
  have h1 : leVal (((l.drop i).take 8).drop k) < 256 ^ (((l.drop i).take 8).drop k).length := leVal_lt (fun x hx => h x (List.mem_of_mem_drop (List.mem_of_mem_take (List.mem_of_mem_drop hx))))
  exact Nat.lt_of_lt_of_le h1 (Nat.pow_le_pow_right (by omega) (by simp; omega))
theorem word_lt (x k : Nat) : ∀ y ∈ word x k, y < 256 := by
  intro y hy
  obtain ⟨i, _, rfl⟩ := List.mem_map.1 hy
  exact Nat.mod_lt _ (by omega)
theorem sum_lt (l : List Nat) : ∀ y ∈ Sha.sum l, y < 256 := by
  intro y hy
  obtain ⟨i, _, rfl⟩ := List.mem_map.1 hy
  exact Nat.mod_lt _ (by omega)
theorem new_len (lab : List Nat) : (new lab).length = 32 := Sha.sum_len _
theorem absorb_len (s lab b : List Nat) : (absorb s lab b).length = 32 := Sha.sum_len _
theorem output_len (s : List Nat) (c tag : Nat) (lab : List Nat) : (output s c tag lab).length = 32 := Sha.sum_len _
theorem pre_len (s : List Nat) (tag : Nat) (lab : List Nat) : (pre s tag lab).length = s.length + 2 + lab.length := by simp [pre]; omega
theorem pre_lt {s lab : List Nat} {tag : Nat} (hs : ∀ x ∈ s, x < 256) (ht : tag < 256) (hl : ∀ x ∈ lab, x < 256) : ∀ x ∈ pre s tag lab, x < 256 := by
  intro x hx
  simp only [pre, List.mem_append, List.mem_cons, List.not_mem_nil, or_false] at hx
  rcases hx with (hx | rfl | rfl) | hx
  · exact hs x hx
  · exact ht
  · exact Nat.mod_lt _ (by omega)
  · exact hl x hx
end Go.Proofs.Tr

/- Literals of slices inside a region that draws. -/
namespace Go.Proofs.K
open Go.RowKit
variable {P : Program} {n : NN} {f : Fr} {w : World} {ops : Array Oper} {rest : List Oper}
section
variable {A : World → Prop} {Fin : List Oper → (Rho → Fr) → (Rho → Nat → World → Prop) → Prop} {k : Nat} {E : List Ent} {g : Rho → Fr} {H : Rho → Nat → World → Prop} {d : Tmp} {t ty e : TypeId} {pos : String} {af : Array Edge} {w0 : World} {x y : Operand}
theorem RowF.lit (w : World) (e : TypeId) (cs : List Value) (h0 : w0.heap.size ≤ w.heap.size) (m : Nat) (hm : cs.length = m) (hk : m ≤ maxLen) : RowF w0 1 (.slice (some ⟨w.heap.size, 0, none⟩) m m) m cs (w.alloc (.cells cs.toArray e)) :=
  ⟨_, _, h0, Row.lit w e 1 m cs (by omega) hk⟩
theorem DW_lit2 {z0 : Value} [TSlice P ty e] [TZero P e [z0]] (a b : Rho → Value) (hx : ∀ r, ev n (g r) x = a r) (hy : ∀ r, ev n (g r) y = b r)
    (h1 : ∀ r w, A w → (∀ j, td ops k j = true → H r j w) → (a r).oneCell' = true ∧ (b r).oneCell' = true) (hA0 : ∀ w, A w → w0.heap.size ≤ w.heap.size) (ha : ∀ r v, a (rset r k v) = a r) (hb : ∀ r v, b (rset r k v) = b r)
    (hr : DW ExtN P n ops A Fin rest (k + 1) E (fun r => upd (g r) d (r k)) (fun r j w => bif Nat.beq j k then RowF w0 1 (r k) 2 [a r, b r] w else H r j w)) :
    DW ExtN P n ops A Fin (⟨some d, .buildSlice ty 2 #[(0, x), (1, y)], t, pos, af, none⟩ :: rest) k (.op (fun r w => RowF w0 1 (r k) 2 [a r, b r] w) :: E) g H :=
  DW_d (F := fun r u w => RowF w0 1 u 2 [a r, b r] w) (fun r w hA hH => ⟨_, _, X_lit2 (hx r) (hy r) (h1 r w hA hH).1 (h1 r w hA hH).2, grown_alloc _ _, RowF.lit w e _ (hA0 w hA) 2 rfl (by unfold maxLen; omega)⟩)
    (fun _ r u w w' _ _ E h => RowF.ext E h) (fun r u => by simp only [ha, hb]) hr
theorem DW_lit1 {z0 : Value} [TSlice P ty e] [TZero P e [z0]] (a : Rho → Value) (hx : ∀ r, ev n (g r) x = a r)
    (h1 : ∀ r w, A w → (∀ j, td ops k j = true → H r j w) → (a r).oneCell' = true) (hA0 : ∀ w, A w → w0.heap.size ≤ w.heap.size) (ha : ∀ r v, a (rset r k v) = a r)
    (hr : DW ExtN P n ops A Fin rest (k + 1) E (fun r => upd (g r) d (r k)) (fun r j w => bif Nat.beq j k then RowF w0 1 (r k) 1 [a r] w else H r j w)) :
    DW ExtN P n ops A Fin (⟨some d, .buildSlice ty 1 #[(0, x)], t, pos, af, none⟩ :: rest) k (.op (fun r w => RowF w0 1 (r k) 1 [a r] w) :: E) g H :=
  DW_d (F := fun r u w => RowF w0 1 u 1 [a r] w) (fun r w hA hH => ⟨_, _, X_lit1 (hx r) (h1 r w hA hH), grown_alloc _ _, RowF.lit w e _ (hA0 w hA) 1 rfl (by unfold maxLen; omega)⟩)
    (fun _ r u w w' _ _ E h => RowF.ext E h) (fun r u => by simp only [ha]) hr
/-- a variable made inside a region that draws -/
def NewF (w0 : World) (ty : TypeId) (z : List Value) (u : Value) (w : World) : Prop := ∃ q, u = .pointer (some ⟨q, 0, none⟩) ∧ w0.heap.size ≤ q ∧ Blk w q ty z
theorem NewF.ext {z : List Value} {u : Value} {w w' : World} (E : Ext w w') (h : NewF w0 ty z u w) : NewF w0 ty z u w' := by
  obtain ⟨q, h1, h2, h3⟩ := h; exact ⟨q, h1, h2, h3.ext E⟩
theorem DW_alloc {z : List Value} [hz : TZero P ty z] (hA0 : ∀ w, A w → w0.heap.size ≤ w.heap.size)
    (hr : DW ExtN P n ops A Fin rest (k + 1) E (fun r => upd (g r) d (r k)) (fun r j w => bif Nat.beq j k then NewF w0 ty z (r k) w else H r j w)) :
    DW ExtN P n ops A Fin (⟨some d, .alloc ty, t, pos, af, none⟩ :: rest) k (.op (fun r w => NewF w0 ty z (r k) w) :: E) g H :=
  DW_d (F := fun _ u w => NewF w0 ty z u w) (fun r w hA hH => by
    obtain ⟨v, hv, hc⟩ := hz.h
    cases hq : P.info? ty with
    | none => simp [hq] at hv
    | some i =>
      have h0 : i.zero = some v := by simpa [hq] using hv
      haveI : TInfo P ty i.size i.bytes v := ⟨by simp [hq, h0]⟩
      exact ⟨_, _, X_alloc, grown_alloc _ _, w.heap.size, rfl, hA0 w hA, by rw [hc]; exact Blk.new _ _ _⟩)
    (fun _ _ u w w' _ _ E h => NewF.ext E h) (fun _ _ => rfl) hr
end
section
variable {d : Option Tmp} {t ty ty' : TypeId} {pos : String} {af : Array Edge} {g : Option (Nat × Bool)} {x y : Operand}
theorem X_addS {a b : ByteArray} (hx : ev n f x = .string a) (hy : ev n f y = .string b) (h : a.size + b.size ≤ 9223372036854775807) : X P n ⟨d, .binOp .add ty x y ty', t, pos, af, g⟩ f w = .ok (.value (.string (a ++ b))) w := by
  have h' : ¬ (((a.size + b.size : Nat) : Int) > IntKind.i64.max) := by
    have : IntKind.i64.max = 9223372036854775807 := by decide
    omega
  have e : (Op.stringOp .add a b).run P w = .ok (.string (a ++ b)) w := by
    simp only [Op.stringOp]
    rw [if_neg h']; rfl
  simp [X, execOp, hx, hy, eqGuard_add, binOp, e, Result.andThen]
end
end Go.Proofs.K

/- An append keeps what other slices of the same block own. -/
namespace Go.Proofs.K
open Go.RowKit
variable {P : Program} {n : NN} {Q : Exit → Fr → World → Prop} {f : Fr} {w : World} {ops : Array Oper} {rest : List Oper}

/-- every row of at most m elements is owned as it was -/
def Keeps (e size m : Nat) (w w' : World) : Prop := ∀ base0 v0 m0 xs0, m0 ≤ m → w.ownsRow base0 e size v0 m0 xs0 → w'.ownsRow base0 e size v0 m0 xs0
theorem Keeps.of_ext {e size m : Nat} {w w' : World} (E : Ext w w') : Keeps e size m w w' := fun _ _ _ _ _ h => own_ext h E
theorem Keeps.trans {e size m m' : Nat} {a b c : World} (h : Keeps e size m a b) (k : Keeps e size m' b c) (hm : m ≤ m') : Keeps e size m a c := fun _ _ _ _ hl ho => k _ _ _ _ (Nat.le_trans hl hm) (h _ _ _ _ hl ho)
theorem Keeps.setRow {e size m g cap : Nat} {cur : Array Value} {zs : List Value} {w : World} (hg : w.heap[g]? = some (.cells cur e (0, 0))) (_hc : cur.size = cap * size) (hz : zs.length = cur.size) (ht : zs.take (m * size) = cur.toList.take (m * size)) : Keeps e size m w (w.setRow g zs.toArray) := by
  intro base0 v0 m0 xs0 hm ho
  refine ⟨ho.1, ?_⟩
  rcases ho.2 with h | ⟨g0, cap0, cur0, hv, hb, hc0, h1, h2, h3, h4⟩
  · exact .inl h
  · by_cases hgg : g0 = g
    · subst hgg
      rw [hg] at hc0
      injection hc0 with hc0
      injection hc0 with hc0 _ _
      subst hc0
      refine .inr ⟨g0, cap0, zs.toArray, hv, hb, setRow_heap w g0 _ _ _ _ hg, h1, h2, by simp [hz, h3], ?_⟩
      rw [← h4]
      have hmm : m0 * size ≤ m * size := Nat.mul_le_mul_right _ hm
      have e1 := congrArg (List.take (m0 * size)) ht
      rwa [List.take_take, List.take_take, Nat.min_eq_left hmm] at e1
    · exact .inr ⟨g0, cap0, cur0, hv, hb, (setRow_other w g g0 _ hgg).trans hc0, h1, h2, h3, h4⟩
theorem run_appendK {lo hi size bytes m k base : Nat} {t ty e : TypeId} {z u v : Value} {xs ys : List Value} [ht : TSlice P t e] [hz : TInfo P e size bytes z]
    (hzs : z.cells.size = size) (hsz : 0 < size) (hown : w.ownsRow base e size v m xs) (hr : Row w lo hi size u k ys) (h1 : ∀ q ∈ ys, q.oneCell' = true) (hb : (m + k) * bytes ≤ 140737488355328) (hm : m + k ≤ 9223372036854775807) (hbase : base ≤ w.heap.size) :
    ∃ v' w', (Builtin.append_ #[t, t] ty #[v, u]).run P w = .ok v' w' ∧ w'.ownsRow base e size v' (m + k) (xs ++ ys) ∧ w.grownBy w' v.ownBlock ∧ (v'.ownBlock = v.ownBlock ∨ v'.ownBlock = some w.heap.size) ∧ Keeps e size m w w' := by
  obtain ⟨v', w', hrun, ho, hg, hbb⟩ := run_append (P := P) (ty := ty) (t := t) hzs hsz hown hr h1 hb hm hbase
  refine ⟨v', w', hrun, ho, hg, hbb, ?_⟩
  obtain ⟨i, hi', h0, h2, h3⟩ := info_parts hz.h
  rcases hown.2 with ⟨rfl, rfl⟩ | ⟨g, cap, cur, rfl, hb0, hcur, hnc, hcm, hcs, htk⟩
  · exact Keeps.of_ext hg
  obtain ⟨hl, A, c, rfl, hc, hcm', hn⟩ := hr
  have room : ∀ ad : Addr, m + k ≤ cap → (∀ j u, ys[j]? = some u → w.cell? (ad.add j) = some u) → A = some ad → Keeps e size m w w' := by
    intro ad hle hnews hA
    subst hA
    have hfit : m * i.size + ys.length ≤ cur.size := by rw [h2, hl, hcs, ← Nat.add_mul]; exact Nat.mul_le_mul_right _ hle
    have := run_append_room (P := P) w t ty e i ht.h hi' g m cap cur hcur ad k c ys (by rw [h2]; exact hl) hnews h1 hle hfit
    rw [hrun] at this
    injection this with _ hw'
    subst hw'
    refine Keeps.setRow hcur hcs ?_ ?_
    · simp only [List.length_append, List.length_take, List.length_drop, Array.length_toList]; omega
    · rw [h2] at hfit ⊢
      rw [List.append_assoc, List.take_append_of_le_length (by simp; omega), List.take_take, Nat.min_self]
  rcases Nat.eq_zero_or_pos k with hk | hk
  · subst hk
    obtain rfl : ys = [] := List.eq_nil_of_length_eq_zero (by simpa using hl)
    rcases A with _ | ad
    · have := run_append_nil' (P := P) w base t ty e i size ht.h hi' _ m xs hown c
      rw [hrun] at this
      injection this with _ hw'
      subst hw'
      exact Keeps.of_ext (Ext.refl _)
    · exact room ad (by omega) (by simp) rfl
  · obtain ⟨b, o, rfl, hb1, hb2, hcell⟩ := hn hk
    rcases Nat.lt_or_ge cap (m + k) with hlt | hge
    · have hxs : ∀ j u, xs[j]? = some u → w.cell? ((⟨g, 0, none⟩ : Addr).add j) = some u := fun j u hu => by
        have := (Row.of_own hown)
        obtain ⟨_, A', c', he, _, _, hn'⟩ := this
        injection he with e1 _ _
        by_cases hm0 : 0 < m
        · obtain ⟨b', o', hA', _, _, hr'⟩ := hn' hm0
          rw [hA'] at e1; injection e1 with e1
          have := hr' j u hu
          rw [Addr.add_mid]
          cases e1
          exact this
        · have h00 := hown.1
          obtain rfl : m = 0 := by omega
          have : xs = [] := List.eq_nil_of_length_eq_zero (by simpa using h00)
          rw [this] at hu; simp at hu
      have := run_append_grow (P := P) w t ty e i z ht.h hi' h0 ⟨g, 0, none⟩ m cap xs (by rw [h2]; exact hown.1) hxs ⟨b, o, none⟩ k c ys (by rw [h2]; exact hl) (fun j u hu => by rw [Addr.add_mid]; exact hcell j u hu) hlt (by omega) (growslice_fits (by omega) (by rw [h3]; exact hb))
      rw [hrun] at this
      injection this with _ hw'
      subst hw'
      exact Keeps.of_ext ⟨rfl, rfl, rfl, by simp, fun j hj _ => heap_alloc_old w.drew _ hj⟩
    · exact room _ hge (fun j u hu => by rw [Addr.add_mid]; exact hcell j u hu) rfl
section
variable {d : Tmp} {t ty e : TypeId} {pos : String} {af : Array Edge} {x y : Operand}
theorem L_appendK {lo hi size bytes m k base : Nat} {u v : Value} {xs ys : List Value} [ht : TSlice P ty e] [hz : TElem P e size bytes]
    (hx : ev n f x = v) (hy : ev n f y = u) (hown : w.ownsRow base e size v m xs) (hr : Row w lo hi size u k ys) (h1 : ∀ q ∈ ys, q.oneCell' = true) (hb : (m + k) * bytes ≤ 140737488355328) (hm : m + k ≤ 9223372036854775807) (hbase : base ≤ w.heap.size)
    (h : ∀ v' w', w'.ownsRow base e size v' (m + k) (xs ++ ys) → w.grownBy w' v.ownBlock → (v'.ownBlock = v.ownBlock ∨ v'.ownBlock = some w.heap.size) → Keeps e size m w w' → L P n ops Q rest (upd f d v') w') :
    L P n ops Q (⟨some d, .call ⟨.builtin .append, #[x, y], #[ty, ty]⟩, t, pos, af, none⟩ :: rest) f w := by
  obtain ⟨z, h0, hzs, hsz⟩ := hz.h
  haveI : TInfo P e size bytes z := ⟨h0⟩
  obtain ⟨v', w', hX, h2, h3, h4, h5⟩ := run_appendK (P := P) (ty := t) (t := ty) hzs hsz hown hr h1 hb hm hbase
  exact Ls (X_of_run hx hy hX) (h v' w' h2 h3 h4 h5)
end
theorem own_other {w w' : World} {base e size m : Nat} {v : Value} {xs : List Value} {row : Option Nat} (h : w.ownsRow base e size v m xs) (hg : w.grownBy w' row) (hr : ∀ g, v.ownBlock = some g → row ≠ some g) : w'.ownsRow base e size v m xs := by
  refine ⟨h.1, ?_⟩
  rcases h.2 with hn | ⟨g, cap, cur, hv, hb, hc, rest⟩
  · exact .inl hn
  · have hlt : g < w.heap.size := (Array.getElem?_eq_some_iff.1 hc).1
    exact .inr ⟨g, cap, cur, hv, hb, (hg.block g hlt (fun e => hr g (by rw [hv]; rfl) e.symm)).trans hc, rest⟩
/-! a region that draws, one of whose operations (k0) appends to a row of the function's own -/
def RA (k0 : Nat) (bl : Option Nat) (e size m : Nat) : Nat → World → World → Prop := fun i a b => Ext a b ∨ (i = k0 ∧ a.grownBy b bl ∧ Keeps e size m a b)
instance {k0 : Nat} {bl : Option Nat} {e size m : Nat} : ExtR (RA k0 bl e size m) := ⟨fun _ _ _ h => .inl h⟩
theorem RA.refl (k0 : Nat) (bl : Option Nat) (e size m : Nat) (i : Nat) (w : World) : RA k0 bl e size m i w w := .inl (Ext.refl w)
theorem RA.keeps {k0 : Nat} {bl : Option Nat} {e size m i : Nat} {a b : World} (h : RA k0 bl e size m i a b) : Keeps e size m a b := h.elim Keeps.of_ext fun h => h.2.2
theorem RA.grown {k0 : Nat} {bl : Option Nat} {e size m i : Nat} {a b : World} (h : RA k0 bl e size m i a b) : a.grownBy b bl := h.elim (fun E => E.row _) fun h => h.2.1
theorem RA.other {k0 : Nat} {bl : Option Nat} {e size m i : Nat} {a b : World} (h : RA k0 bl e size m i a b) (hi : i ≠ k0) : Ext a b := h.elim id fun h => absurd h.1 hi
/-- what holds in such a region of the world: the row as it was, all else as it was -/
structure AA (w0 : World) (bl : Option Nat) (base e size : Nat) (v : Value) (m : Nat) (xs : List Value) (w : World) : Prop where
  g : w0.grownBy w bl
  o : w.ownsRow base e size v m xs
theorem AA.new {w0 : World} {base e size m : Nat} {v : Value} {xs : List Value} (h : w0.ownsRow base e size v m xs) : AA w0 v.ownBlock base e size v m xs w0.drew := ⟨(Ext.drew w0).row _, own_ext h (Ext.drew w0)⟩
theorem AA.step {w0 : World} {k0 base e size m : Nat} {bl : Option Nat} {v : Value} {xs : List Value} : ∀ i a b, RA k0 bl e size m i a b → AA w0 bl base e size v m xs a → AA w0 bl base e size v m xs b :=
  fun _ _ _ h ⟨h1, h2⟩ => ⟨grown_trans' h1 h.grown (fun _ h => .inl h), h.keeps _ _ _ _ (Nat.le_refl _) h2⟩
section
variable {R : Nat → World → World → Prop} {A : World → Prop} {Fin : List Oper → (Rho → Fr) → (Rho → Nat → World → Prop) → Prop} {k : Nat} {E : List Ent} {g : Rho → Fr} {H : Rho → Nat → World → Prop} {d : Tmp} {t : TypeId} {pos : String} {af : Array Edge}
/-- a call whose result is described, in a region of any relation -/
theorem DW_fr {F : Value → World → Prop} {id : FuncId} [TFun P id] {l : List Operand} {vl : Rho → List Value} {tys : Array TypeId} (ha : ∀ r, l.map (ev n (g r)) = vl r)
    (hc : ∀ r w, A w → (∀ j, td ops k j = true → H r j w) → Calls P id (vl r).toArray w fun e w' => ∃ v, e = .returned v ∧ R k w w' ∧ F v w') (hF : ∀ i v w w', i ≠ k → td ops k i = false → R i w w' → F v w → F v w')
    (hr : DW R P n ops A Fin rest (k + 1) E (fun r => upd (g r) d (r k)) (fun r j w => bif Nat.beq j k then F (r k) w else H r j w)) : DW R P n ops A Fin (⟨some d, .call ⟨.value (.func id), l.toArray, tys⟩, t, pos, af, none⟩ :: rest) k (.op (fun r w => F (r k) w) :: E) g H :=
  .op (fun r w hA hH => ⟨wants_none rfl, Run_call (X_fn (ha r)) (hc r w hA hH) fun e w' ⟨v, he, hE, hv⟩ => ⟨v, he, hE, by rw [rset_self]; exact hv⟩⟩) (fun i r w w' h1 h2 hE h => hF i _ _ _ h1 h2 hE h) hr
end
end Go.Proofs.K

/- Sets of ints (map[int]struct), and stores to a variable that a region that draws has made. -/
namespace Go.Proofs.K
open Go.RowKit Go.Maps Go.MapKept
variable {P : Program} {n : NN} {Q : Exit → Fr → World → Prop} {f : Fr} {w : World} {ops : Array Oper} {rest : List Oper}

/-- block b is a set that holds just the numbers of l -/
def IsSet (P : Program) (kt : TypeId) (w : World) (b : Nat) (l : List Nat) : Prop :=
  ∃ n D, n ≤ l.length ∧ w.ownsMap (H := Unit) P kt unitElem b n D ∧ ∀ x : Nat, x < 9223372036854775808 → Maps.has D (.int .i64 (x : Int)) = decide (x ∈ l)
theorem IsSet.kept {kt b : Nat} {l : List Nat} {w w' : World} {row : Option Nat} (h : IsSet P kt w b l) (hg : w.grownBy w' row) (hne : some b ≠ row) : IsSet P kt w' b l := by
  obtain ⟨n, D, h1, h2, h3⟩ := h
  exact ⟨n, D, h1, h2.kept hg hne, h3⟩
theorem IsSet.lt {kt b : Nat} {l : List Nat} {w : World} (h : IsSet P kt w b l) : b < w.heap.size := by
  obtain ⟨n, D, h1, h2, h3⟩ := h
  exact h2.lt
theorem IsSet.notCells {kt b : Nat} {l : List Nat} {w : World} (h : IsSet P kt w b l) : ∀ c t fz, w.heap[b]? ≠ some (.cells c t fz) := by
  obtain ⟨n, D, h1, ⟨es, clock, hb, _⟩, h3⟩ := h
  intro c t fz e
  rw [hb] at e; cases e
theorem wf_i64 {x : Nat} (hx : x < 9223372036854775808) : (Lit.int .i64 (x : Int)).wf = true := wf_nat .i64 9223372036854775808 (by decide) hx
section
variable {d : Tmp} {t ty kt e : TypeId} {pos : String} {af : Array Edge} {x y z : Operand}
theorem L_makeSet (h : ∀ w', IsSet P kt w' w.heap.size [] → Ext w w' → w'.heap.size = w.heap.size + 1 → L P n ops Q rest (upd f d (.map (some w.heap.size))) w') :
    L P n ops Q (⟨some d, .makeMap ty none, t, pos, af, none⟩ :: rest) f w := by
  refine Ls (v := .map (some w.heap.size)) (w' := w.alloc (.map #[] 0)) ?_ (h _ ⟨0, .map [], Nat.le_refl _, World.ownsMap_made w P kt unitElem, fun x _ => by simp [has_eq]⟩ (grown_alloc _ _) (by simp))
  simp [X, execOp, run_makeMap]
theorem X_lookSet {dd : Option Tmp} {g : Option (Nat × Bool)} [hm : TMap P ty kt e] [hk : TInt P kt .i64] (hz : (P.info? e).bind (·.zero) = some (.agg #[])) {b : Nat} {l : List Nat} {a : Nat} (hx : ev n f x = .map (some b)) (hy : ev n f y = .int .i64 (a : Nat)) (hs : IsSet P kt w b l) (ha : a < 9223372036854775808) :
    X P n ⟨dd, .lookup ty x y true, t, pos, af, g⟩ f w = .ok (.value (.tuple [.agg #[], .bool (decide (a ∈ l))].toArray)) w := by
  obtain ⟨q, D, h1, h2, h3⟩ := hs
  have hzv : (zeroValue e).run P w = .ok (.agg #[]) w := by
    cases hq : P.info? e with
    | none => rw [hq] at hz; cases hz
    | some i => rw [hq] at hz; simp at hz; simp [zeroValue, typeInfo, hq, hz]
  obtain ⟨v, ps, hrun, hv⟩ := h2.look_ok (int_keyed hk.h) hm.h hzv (unitElem_mk (H := Unit)) (keyOf_int_mk hk.h (wf_i64 ha))
  obtain ⟨rfl, _⟩ := unitElem_inv hv
  rw [h3 a ha] at hrun
  simp [X, execOp, hx, hy, hrun, Result.andThen]
theorem L_putSet [hm : TMap P ty kt e] [hk : TInt P kt .i64] {b : Nat} {l : List Nat} {a : Nat} (hx : ev n f x = .map (some b)) (hy : ev n f y = .int .i64 (a : Nat)) (hv : ev n f z = .agg #[]) (hs : IsSet P kt w b l) (ha : a < 9223372036854775808) (hl : l.length < maxLen)
    (h : ∀ w', IsSet P kt w' b (l ++ [a]) → w.grownBy w' (some b) → w'.heap.size = w.heap.size → L P n ops Q rest f w') :
    L P n ops Q (⟨none, .mapUpdate ty x y z, t, pos, af, none⟩ :: rest) f w := by
  obtain ⟨q, D, h1, h2, h3⟩ := hs
  have hD : IsMap D := h2.isMap
  obtain ⟨w', hrun, h4, h5⟩ := h2.store (int_keyed hk.h) hm.h (Nat.lt_of_le_of_lt h1 hl) (keyOf_int_mk hk.h (wf_i64 ha)) (unitElem_mk (H := Unit))
  refine Ln (w' := w') ?_ (h w' ⟨q + 1, _, by simp; omega, h4, fun y hy => ?_⟩ h5.grown ?_)
  · simp [X, execOp, hx, hy, hv, hrun, Result.andThen]
  · by_cases hya : y = a
    · subst hya
      rw [has_put_same hD (by exact trivial)]
      simp
    · rw [has_put_other (by intro e; injection e with _ e; exact hya (by omega)), h3 y hy]
      simp [hya]
  · obtain ⟨es, clock, es', clock', hb, rfl⟩ := h5
    simp [Go.ChangeMaps.setBlock]
end
/-! a region that draws, one of whose operations (k0) stores to a variable that the region itself has made -/
def RN (k0 : Nat) (w0 : World) (T : TypeId) (z l : List Value) : Nat → World → World → Prop := fun i a b => Ext a b ∨ (i = k0 ∧ ∃ q, w0.heap.size ≤ q ∧ (Blk a q T z ∨ Blk a q T l) ∧ a.grownBy b (some q) ∧ Blk b q T l)
section
variable {k0 : Nat} {w0 : World} {T : TypeId} {z l : List Value}
instance : ExtR (RN k0 w0 T z l) := ⟨fun _ _ _ h => .inl h⟩
theorem RN.refl (i : Nat) (w : World) : RN k0 w0 T z l i w w := .inl (Ext.refl w)
theorem RN.other {i : Nat} {a b : World} (h : RN k0 w0 T z l i a b) (hi : i ≠ k0) : Ext a b := h.elim id fun h => absurd h.1 hi
theorem RN.step : ∀ i a b, RN k0 w0 T z l i a b → Ext w0 a → Ext w0 b := fun _ _ _ h E => h.elim (fun e => E.trans e) fun ⟨_, q, hq, _, hg, _⟩ => E.then hg (fun g hg => by cases hg; exact hq)
theorem RN.blk {i g : Nat} {T' : TypeId} {cs : List Value} {a b : World} (h : RN k0 w0 T z l i a b) (B : Blk a g T' cs) (hT : T' ≠ T) : Blk b g T' cs := h.elim (fun e => B.ext e) fun ⟨_, q, _, hz, hg, _⟩ => B.grown hg (by
  intro e; injection e with e
  exact hz.elim (fun hz => B.ne_ hz hT e.symm) (fun hz => B.ne_ hz hT e.symm))
/-- the variable, before or behind the store -/
def NewZ (w0 : World) (T : TypeId) (z l : List Value) (u : Value) (w : World) : Prop := ∃ q, u = .pointer (some ⟨q, 0, none⟩) ∧ w0.heap.size ≤ q ∧ (Blk w q T z ∨ Blk w q T l)
theorem NewZ.step {i : Nat} {u : Value} {a b : World} (h : RN k0 w0 T z l i a b) (hn : NewZ w0 T z l u a) : NewZ w0 T z l u b := by
  obtain ⟨q, h1, h2, h3⟩ := hn
  refine ⟨q, h1, h2, ?_⟩
  rcases h with e | ⟨_, q', hq, hz, hg, hb⟩
  · exact h3.imp (fun B => B.ext e) (fun B => B.ext e)
  · by_cases hqq : q = q'
    · subst hqq; exact .inr hb
    · exact h3.imp (fun B => B.grown hg (fun e => hqq (by injection e with e; exact e.symm))) (fun B => B.grown hg (fun e => hqq (by injection e with e; exact e.symm)))
theorem NewF.stepN {i : Nat} {T' : TypeId} {cs : List Value} {u : Value} {a b : World} (hT : T' ≠ T) (h : RN k0 w0 T z l i a b) (hn : NewF w0 T' cs u a) : NewF w0 T' cs u b := by
  obtain ⟨q, h1, h2, h3⟩ := hn
  exact ⟨q, h1, h2, h.blk h3 hT⟩
variable {Fin : List Oper → (Rho → Fr) → (Rho → Nat → World → Prop) → Prop} {k : Nat} {E : List Ent} {g : Rho → Fr} {H : Rho → Nat → World → Prop} {d : Tmp} {t ty : TypeId} {pos : String} {af : Array Edge} {x y : Operand}
theorem alloc_new {w : World} {z' : List Value} [hz : TZero P ty z'] {f : Fr} (h0 : w0.heap.size ≤ w.heap.size) : ∃ v w', X P n ⟨some d, .alloc ty, t, pos, af, none⟩ f w = .ok (.value v) w' ∧ Ext w w' ∧ NewF w0 ty z' v w' := by
  obtain ⟨v, hv, hc⟩ := hz.h
  cases hq : P.info? ty with
  | none => simp [hq] at hv
  | some i =>
    have h0' : i.zero = some v := by simpa [hq] using hv
    haveI : TInfo P ty i.size i.bytes v := ⟨by simp [hq, h0']⟩
    exact ⟨_, _, X_alloc, grown_alloc _ _, w.heap.size, rfl, h0, by rw [hc]; exact Blk.new _ _ _⟩
theorem DW_allocZ [hz : TZero P T z]
    (hr : DW (RN k0 w0 T z l) P n ops (Ext w0) Fin rest (k + 1) E (fun r => upd (g r) d (r k)) (fun r j w => bif Nat.beq j k then NewZ w0 T z l (r k) w else H r j w)) :
    DW (RN k0 w0 T z l) P n ops (Ext w0) Fin (⟨some d, .alloc T, t, pos, af, none⟩ :: rest) k (.op (fun r w => NewZ w0 T z l (r k) w) :: E) g H :=
  DW_d (F := fun _ u w => NewZ w0 T z l u w) (fun r w hA hH => by
    obtain ⟨v, w', h1, h2, q, h3, h4, h5⟩ := alloc_new (P := P) (n := n) (d := d) (t := t) (pos := pos) (af := af) (ty := T) (z' := z) (f := g r) hA.size
    exact ⟨v, w', h1, h2, q, h3, h4, .inl h5⟩)
    (fun _ _ u w w' _ _ E h => NewZ.step E h) (fun _ _ => rfl) hr
theorem DW_allocO {z' : List Value} [hz : TZero P ty z'] (hT : ty ≠ T)
    (hr : DW (RN k0 w0 T z l) P n ops (Ext w0) Fin rest (k + 1) E (fun r => upd (g r) d (r k)) (fun r j w => bif Nat.beq j k then NewF w0 ty z' (r k) w else H r j w)) :
    DW (RN k0 w0 T z l) P n ops (Ext w0) Fin (⟨some d, .alloc ty, t, pos, af, none⟩ :: rest) k (.op (fun r w => NewF w0 ty z' (r k) w) :: E) g H :=
  DW_d (F := fun _ u w => NewF w0 ty z' u w) (fun r w hA hH => alloc_new hA.size)
    (fun _ _ u w w' _ _ E h => NewF.stepN hT E h) (fun _ _ => rfl) hr
theorem DW_storeN {size kx : Nat} [TAgg P ty size] (hx : ∀ r, ev n (g r) x = r kx) (hy : ∀ r, ev n (g r) y = .agg l.toArray) (hzl : z.length = size) (hl : l.length = size) (h1 : ∀ v ∈ l, v.oneCell' = true) (hkx : kx ≠ k0)
    (hz : ∀ r w, Ext w0 w → (∀ j, td ops k0 j = true → H r j w) → NewZ w0 T z l (r kx) w)
    (hr : DW (RN k0 w0 T z l) P n ops (Ext w0) Fin rest (k0 + 1) E g (fun r j w => bif Nat.beq j k0 then (∃ q, r kx = .pointer (some ⟨q, 0, none⟩) ∧ w0.heap.size ≤ q ∧ Blk w q T l) else H r j w)) :
    DW (RN k0 w0 T z l) P n ops (Ext w0) Fin (⟨none, .store ty x y, t, pos, af, none⟩ :: rest) k0 (.op (fun r w => ∃ q, r kx = .pointer (some ⟨q, 0, none⟩) ∧ w0.heap.size ≤ q ∧ Blk w q T l) :: E) g H := by
  refine .op (fun r w hA hH => ⟨rfl, ?_⟩) (fun i r w w' hi _ hE ⟨q, h1, h2, h3⟩ => ⟨q, h1, h2, h3.ext (hE.other hi)⟩) hr
  obtain ⟨q, e, hq, hB⟩ := hz r w hA hH
  have key : ∀ c : List Value, c.length = size → Blk w q T c → (Blk w q T z ∨ Blk w q T l) → Run P n ⟨none, .store ty x y, t, pos, af, none⟩ (g r) w fun v w' => RN k0 w0 T z l k0 w w' ∧ ∃ q, rset r k0 v kx = .pointer (some ⟨q, 0, none⟩) ∧ w0.heap.size ≤ q ∧ Blk w' q T l := by
    intro c hc B hB
    have hX := X_storeA (P := P) (n := n) (f := g r) (w := w) (d := none) (t := t) (pos := pos) (af := af) (g := none) (ty := ty) ((hx r).trans e) (hy r) hl h1 B (o := 0) (by omega)
    have hcs : c.take 0 ++ l ++ c.drop (0 + size) = l := by rw [List.drop_eq_nil_of_le (by omega)]; simp
    rw [hcs] at hX
    have B' := B.setRow l
    exact Run_skip hX ⟨.inr ⟨rfl, q, hq, hB, grown_setRow _ _ _, B'⟩, q, by rw [rset_other _ _ hkx]; exact e, hq, B'⟩
  exact hB.elim (fun B => key z hzl B (.inl B)) (fun B => key l hl B (.inr B))
end
end Go.Proofs.K

/- Guards struck, strings compared, structs compared by '!='. -/
namespace Go.Proofs.K
open Go.RowKit
variable {P : Program} {n : NN} {Q : Exit → Fr → World → Prop} {f : Fr} {w : World} {ops : Array Oper} {rest : List Oper}
/-- an operation whose guard says yes is as one without -/
theorem L_strip {d : Option Tmp} {op : Op} {t : TypeId} {pos : String} {af : Array Edge} {j : Nat} {want : Bool} {t' : Tmp} (hd : (ops[j]?).bind (·.dst) = some t') (hn : Nat.blt t' n.k = true) (hv : f t' = .bool want)
    (h : L P n ops Q (⟨d, op, t, pos, af, none⟩ :: rest) f w) : L P n ops Q (⟨d, op, t, pos, af, some (j, want)⟩ :: rest) f w :=
  L_on ((wants_at rfl hd hn hv).trans (by cases want <;> rfl)) (h.1 (wants_none rfl))
section
variable {d : Option Tmp} {t ty ty' : TypeId} {pos : String} {af : Array Edge} {g : Option (Nat × Bool)} {x y : Operand}
theorem X_eqlS {a b : ByteArray} (hx : ev n f x = .string a) (hy : ev n f y = .string b) (h : a = b) : X P n ⟨d, .binOp .eql ty x y ty', t, pos, af, g⟩ f w = .ok (.value (.bool true)) w := by
  subst h
  have e : (binOp .eql ty (.string a) (.string a)).run P w = .ok (.bool true) w := by
    simp [binOp, Op.stringOp]
  simp [X, execOp, hx, hy, eqGuard_at_string, e, Result.andThen]
theorem X_neqK [h : TEq P ty] {D D' : Nat} {xs ys : List Value} {la lb : List Lit} (hx : ev n f x = .agg xs.toArray) (hy : ev n f y = .agg ys.toArray) (lx : xs.length = P.cellsOf ty) (ly : ys.length = P.cellsOf ty)
    (kx : P.keyLits D ty xs = some la) (ky : P.keyLits D' ty ys = some lb) {b : Bool} (hb : b = true ↔ la ≠ lb) :
    X P n ⟨d, .binOp .neq ty x y ty, t, pos, af, g⟩ f w = .ok (.value (.bool b)) w := by
  have hf : ∀ zs : List Value, zs.length = P.cellsOf ty → (Value.agg zs.toArray).formed P ty = true := by
    intro zs hz
    rcases h.s with ⟨fs, e⟩ | ⟨m, e', e⟩ <;> simp [Value.formed, e, hz]
  obtain ⟨r, hr, hiff⟩ := run_equalIn_deep 9996 4 ty h.k w D D' (.agg xs.toArray) (.agg ys.toArray) la lb (hf _ lx) (hf _ ly) (by simpa [Value.cells] using kx) (by simpa [Value.cells] using ky)
  have he : (!r) = b := by
    revert hb hiff; cases r <;> cases b <;> simp
  have hg := run_eqGuard_agg (P := P) (w := w) .neq ty x y xs.toArray ys.toArray h.g
  have hs := run_neq_struct (P := P) (w := w) ty xs.toArray ys.toArray
  rw [hr] at hs
  simp only [X, execOp, hx, hy]
  simp [hg, hs, Result.andThen, he]
end
/-! guarded operations inside a region that draws -/
section
variable {R : Nat → World → World → Prop} {A : World → Prop} {Fin : List Oper → (Rho → Fr) → (Rho → Nat → World → Prop) → Prop} {k : Nat} {E : List Ent} {g : Rho → Fr} {H : Rho → Nat → World → Prop} {d : Tmp} {op : Op} {t : TypeId} {pos : String} {af : Array Edge}
theorem DW_on2 [ExtR R] {V : Rho → Value} {j : Nat} {want : Bool} {t' : Tmp} (hd : (ops[j]?).bind (·.dst) = some t') (hn : Nat.blt t' n.k = true) (hv : ∀ r, g r t' = .bool want)
    (hX : ∀ r w, A w → (∀ j, td ops k j = true → H r j w) → X P n ⟨some d, op, t, pos, af, none⟩ (g r) w = .ok (.value (V r)) w)
    (hr : DW R P n ops A Fin rest (k + 1) E (fun r => upd (g r) d (V r)) H) : DW R P n ops A Fin (⟨some d, op, t, pos, af, some (j, want)⟩ :: rest) k (.st V :: E) g H :=
  DW_on (fun r => (wants_at rfl hd hn (hv r)).trans (by cases want <;> rfl)) hX hr
theorem DW_fn2 [ExtR R] {V : Rho → Value} {id : FuncId} [TFun P id] {l : List Operand} {vl : Rho → List Value} {tys : Array TypeId} {j : Nat} {want : Bool} {t' : Tmp} (hd : (ops[j]?).bind (·.dst) = some t') (hn : Nat.blt t' n.k = true) (hv : ∀ r, g r t' = .bool want)
    (ha : ∀ r, l.map (ev n (g r)) = vl r) (hc : ∀ r w, A w → (∀ j, td ops k j = true → H r j w) → Calls P id (vl r).toArray w fun e w' => e = .returned (V r) ∧ Ext w w')
    (hr : DW R P n ops A Fin rest (k + 1) E (fun r => upd (g r) d (V r)) H) : DW R P n ops A Fin (⟨some d, .call ⟨.value (.func id), l.toArray, tys⟩, t, pos, af, some (j, want)⟩ :: rest) k (.st V :: E) g H :=
  DW_fn (fun r => (wants_at rfl hd hn (hv r)).trans (by cases want <;> rfl)) ha hc hr
theorem DW_fo2 [ExtR R] {F : Value → World → Prop} {id : FuncId} [TFun P id] {l : List Operand} {vl : Rho → List Value} {tys : Array TypeId} {j : Nat} {want : Bool} {t' : Tmp} (hd : (ops[j]?).bind (·.dst) = some t') (hn : Nat.blt t' n.k = true) (hv : ∀ r, g r t' = .bool want)
    (ha : ∀ r, l.map (ev n (g r)) = vl r) (hc : ∀ r w, A w → (∀ j, td ops k j = true → H r j w) → Calls P id (vl r).toArray w fun e w' => ∃ v, e = .returned v ∧ Ext w w' ∧ F v w') (hF : ∀ i v w w', i ≠ k → td ops k i = false → R i w w' → F v w → F v w')
    (hr : DW R P n ops A Fin rest (k + 1) E (fun r => upd (g r) d (r k)) (fun r j w => bif Nat.beq j k then F (r k) w else H r j w)) : DW R P n ops A Fin (⟨some d, .call ⟨.value (.func id), l.toArray, tys⟩, t, pos, af, some (j, want)⟩ :: rest) k (.op (fun r w => F (r k) w) :: E) g H :=
  DW_fo (fun r => (wants_at rfl hd hn (hv r)).trans (by cases want <;> rfl)) ha hc hF hr
theorem d_ng {d : Option Tmp} (h : DW R P n ops A Fin (⟨d, op, t, pos, af, none⟩ :: rest) k E g H) : DW R P n ops A Fin (⟨d, op, t, pos, af, none⟩ :: rest) k E g H := h
theorem d_gd {d : Option Tmp} {gd : Nat × Bool} (h : DW R P n ops A Fin (⟨d, op, t, pos, af, some gd⟩ :: rest) k E g H) : DW R P n ops A Fin (⟨d, op, t, pos, af, some gd⟩ :: rest) k E g H := h
end
section
variable {d : Option Tmp} {t ty : TypeId} {pos : String} {af : Array Edge} {g : Option (Nat × Bool)} {x : Operand}
theorem i_field {kk : Nat} (h : L P n ops Q (⟨d, .field ty x kk, t, pos, af, g⟩ :: rest) f w) : L P n ops Q (⟨d, .field ty x kk, t, pos, af, g⟩ :: rest) f w := h
end
section
variable {d : Option Tmp} {t ty : TypeId} {pos : String} {af : Array Edge} {g : Option (Nat × Bool)} {x : Operand}
theorem X_fieldL {kk off ft size : Nat} [hf : TFld P ty kk off ft] [h1 : TAgg P ft size] {l l' : List Value} (hx : ev n f x = .agg l.toArray) (hv : (l.drop off).take size = l') :
    X P n ⟨d, .field ty x kk, t, pos, af, g⟩ f w = .ok (.value (.agg l'.toArray)) w := by
  subst hv; exact X_fieldA hx
end
end Go.Proofs.K

/- Transcripts and field pairs as values: built, compared. -/
namespace Go.Proofs.YtemodkjmdalmlaaDoor
open Go.RowKit Go.Proofs.K

/-- the cells of a transcript -/
def trC (s : List Nat) (c : Nat) : List Value := ints .u8 s ++ [.int .u64 (c : Nat)]
def exC (a b : Nat) : List Value := [.int .u64 (a : Nat), .int .u64 (b : Nat)]
theorem trC_len {s : List Nat} {c : Nat} (h : s.length = 32) : (trC s c).length = 33 := by simp [trC, ints_len, h]
theorem trC_cell {s : List Nat} {c : Nat} : ∀ v ∈ trC s c, v.oneCell' = true := by
  intro v hv
  simp only [trC, List.mem_append, List.mem_singleton] at hv
  rcases hv with h | rfl
  · exact ints_cell v h
  · rfl
theorem exC_cell {a b : Nat} : ∀ v ∈ exC a b, v.oneCell' = true := by
  intro v hv
  simp only [exC, List.mem_cons, List.not_mem_nil, or_false] at hv
  rcases hv with rfl | rfl <;> rfl
theorem trC_state {s : List Nat} {c : Nat} (h : s.length = 32) : ((trC s c).drop 0).take 32 = ints .u8 s := by
  simp [trC, ← h, ← ints_len (k := .u8) (l := s)]
theorem trC_ctr {s : List Nat} {c : Nat} (h : s.length = 32) : (trC s c)[32]? = some (.int .u64 (c : Nat)) := by
  simp [trC, ints_len, h]
/-! digests, transcripts, field pairs: compared -/
instance : TEq Tryd.prog 32 := ⟨by kernel_rfl, by kernel_rfl, .inr ⟨_, _, Tryd.underlying32⟩⟩
instance : TEq Tryd.prog 34 := ⟨by kernel_rfl, by kernel_rfl, .inl ⟨_, Tryd.underlying34⟩⟩
instance : TEq Tryd.prog 46 := ⟨by kernel_rfl, by kernel_rfl, .inl ⟨_, Tryd.underlying46⟩⟩
def litsD (l : List Nat) : List Lit := l.map fun x : Nat => .int .u8 (x : Int)
theorem kl_dig {l : List Nat} (h : l.length = 32) (h8 : ∀ x ∈ l, x < 256) : (Tryd.prog).keyLits 2 32 (ints .u8 l) = some (litsD l) :=
  Go.Proofs.K.keyLits_arr 0 (by kernel_rfl) (by kernel_rfl) h fun x hx => wf_u8 (h8 x hx)
theorem kl_tr {s : List Nat} {c : Nat} (h : s.length = 32) (h8 : ∀ x ∈ s, x < 256) (hc : c < 18446744073709551616) : (Tryd.prog).keyLits 3 34 (trC s c) = some (litsD s ++ [.int .u64 (c : Nat)]) := by
  refine keyLits_two (D := 2) Tryd.underlying34 (by decide) (by decide) ((trC_len h).trans (by kernel_rfl)) ?_ ?_
  · rw [show (Tryd.prog).cellsOf 32 = 32 by kernel_rfl, trC_state h]
    exact kl_dig h h8
  · have e : ((trC s c).drop 32).take ((Tryd.prog).cellsOf 25) = [.int .u64 (c : Nat)] := by
      rw [show (Tryd.prog).cellsOf 25 = 1 by kernel_rfl]
      simp [trC, ← h, ← ints_len (k := .u8) (l := s)]
    rw [e]
    exact Go.Proofs.K.keyLits_int 1 (wf_u64 hc)
theorem kl_ex {a b : Nat} (ha : a < 18446744073709551616) (hb : b < 18446744073709551616) : (Tryd.prog).keyLits 3 46 (exC a b) = some ([.int .u64 (a : Nat)] ++ [.int .u64 (b : Nat)]) := by
  refine keyLits_two (D := 2) Tryd.underlying46 (by decide) (by decide) (by kernel_rfl) ?_ ?_
  · rw [show (Tryd.prog).cellsOf 25 = 1 by kernel_rfl]
    exact Go.Proofs.K.keyLits_int 1 (wf_u64 ha)
  · rw [show (Tryd.prog).cellsOf 25 = 1 by kernel_rfl]
    exact Go.Proofs.K.keyLits_int 1 (wf_u64 hb)
theorem litsD_inj {a b : List Nat} : litsD a = litsD b ↔ a = b := lits_inj
theorem lits_tr {s u : List Nat} {c d : Nat} : litsD s ++ [Lit.int .u64 (c : Nat)] = litsD u ++ [Lit.int .u64 (d : Nat)] ↔ s = u ∧ c = d := by
  constructor
  · intro h
    have := List.append_inj' h rfl
    refine ⟨litsD_inj.1 this.1, ?_⟩
    have := this.2
    simp at this; omega
  · rintro ⟨rfl, rfl⟩; rfl
theorem lits_ex {a b c d : Nat} : [Lit.int .u64 (a : Nat)] ++ [Lit.int .u64 (b : Nat)] = [Lit.int .u64 (c : Nat)] ++ [Lit.int .u64 (d : Nat)] ↔ a = c ∧ b = d := by
  constructor
  · intro h
    simp at h; omega
  · rintro ⟨rfl, rfl⟩; rfl
section
variable {n : NN} {f : Fr} {w : World} {d : Option Tmp} {t : TypeId} {pos : String} {af : Array Edge} {g : Option (Nat × Bool)} {x y : Operand}
theorem X_eqlD {a b : List Nat} (ha : a.length = 32) (hb : b.length = 32) (ha8 : ∀ x ∈ a, x < 256) (hb8 : ∀ x ∈ b, x < 256) (hx : ev n f x = .agg (ints .u8 a).toArray) (hy : ev n f y = .agg (ints .u8 b).toArray) :
    X Tryd.prog n ⟨d, .binOp .eql 32 x y 32, t, pos, af, g⟩ f w = .ok (.value (.bool (decide (a = b)))) w :=
  X_eqlK hx hy (by rw [ints_len, ha]; kernel_rfl) (by rw [ints_len, hb]; kernel_rfl) (kl_dig ha ha8) (kl_dig hb hb8) (by rw [litsD_inj]; simp)
theorem X_neqD {a b : List Nat} (ha : a.length = 32) (hb : b.length = 32) (ha8 : ∀ x ∈ a, x < 256) (hb8 : ∀ x ∈ b, x < 256) (hx : ev n f x = .agg (ints .u8 a).toArray) (hy : ev n f y = .agg (ints .u8 b).toArray) :
    X Tryd.prog n ⟨d, .binOp .neq 32 x y 32, t, pos, af, g⟩ f w = .ok (.value (.bool (decide (a ≠ b)))) w :=
  X_neqK hx hy (by rw [ints_len, ha]; kernel_rfl) (by rw [ints_len, hb]; kernel_rfl) (kl_dig ha ha8) (kl_dig hb hb8) (decide_eq_true_iff.trans (not_congr litsD_inj.symm))
theorem X_eqlTr {s u : List Nat} {c e : Nat} (hs : s.length = 32) (hu : u.length = 32) (hs8 : ∀ x ∈ s, x < 256) (hu8 : ∀ x ∈ u, x < 256) (hc : c < 18446744073709551616) (he : e < 18446744073709551616) (hx : ev n f x = .agg (trC s c).toArray) (hy : ev n f y = .agg (trC u e).toArray) :
    X Tryd.prog n ⟨d, .binOp .eql 34 x y 34, t, pos, af, g⟩ f w = .ok (.value (.bool (decide (s = u ∧ c = e)))) w :=
  X_eqlK hx hy ((trC_len hs).trans (by kernel_rfl)) ((trC_len hu).trans (by kernel_rfl)) (kl_tr hs hs8 hc) (kl_tr hu hu8 he) (by rw [lits_tr]; simp)
theorem X_eqlEx {a b a' b' : Nat} (ha : a < 18446744073709551616) (hb : b < 18446744073709551616) (ha' : a' < 18446744073709551616) (hb' : b' < 18446744073709551616) (hx : ev n f x = .agg (exC a b).toArray) (hy : ev n f y = .agg (exC a' b').toArray) :
    X Tryd.prog n ⟨d, .binOp .eql 46 x y 46, t, pos, af, g⟩ f w = .ok (.value (.bool (decide (a = a' ∧ b = b')))) w :=
  X_eqlK hx hy (by kernel_rfl) (by kernel_rfl) (kl_ex ha hb) (kl_ex ha' hb') (by rw [lits_ex]; simp)
theorem X_neqEx {a b a' b' : Nat} (ha : a < 18446744073709551616) (hb : b < 18446744073709551616) (ha' : a' < 18446744073709551616) (hb' : b' < 18446744073709551616) (hx : ev n f x = .agg (exC a b).toArray) (hy : ev n f y = .agg (exC a' b').toArray) :
    X Tryd.prog n ⟨d, .binOp .neq 46 x y 46, t, pos, af, g⟩ f w = .ok (.value (.bool (decide (¬ (a = a' ∧ b = b'))))) w :=
  X_neqK hx hy (by kernel_rfl) (by kernel_rfl) (kl_ex ha hb) (kl_ex ha' hb') (decide_eq_true_iff.trans (not_congr lits_ex.symm))
end
section
variable {n : NN} {f : Fr} {w : World} {d : Option Tmp} {t : TypeId} {pos : String} {af : Array Edge} {g : Option (Nat × Bool)} {x y : Operand}
theorem X_mkTr1 {s : List Nat} (hs : s.length = 32) (hx : ev n f x = .agg (ints .u8 s).toArray) :
    X Tryd.prog n ⟨d, .build 34 #[(0, x)], t, pos, af, g⟩ f w = .ok (.value (.agg (trC s 0).toArray)) w := by
  have := X_build (P := Tryd.prog) (ty := 34) (n := n) (f := f) (w := w) (d := d) (t := t) (pos := pos) (af := af) (g := g) (Parts.cons (i := 0) (c := ints .u8 s) (z := (List.replicate 32 [.int .u8 0]).flatten) hx rfl rfl (by rw [ints_len, hs]; rfl) (Parts.nil _))
  simpa [trC] using this
theorem X_mkEx {a b : Nat} (hx : ev n f x = .int .u64 (a : Nat)) (hy : ev n f y = .int .u64 (b : Nat)) :
    X Tryd.prog n ⟨d, .build 46 #[(0, x), (1, y)], t, pos, af, g⟩ f w = .ok (.value (.agg (exC a b).toArray)) w := by
  have := X_build (P := Tryd.prog) (ty := 46) (n := n) (f := f) (w := w) (d := d) (t := t) (pos := pos) (af := af) (g := g) (Parts.cons (i := 0) (c := [.int .u64 (a : Nat)]) (z := [.int .u64 0]) hx rfl rfl rfl (Parts.cons (i := 1) (c := [.int .u64 (b : Nat)]) (z := [.int .u64 0]) hy rfl rfl rfl (Parts.nil _)))
  simpa [exC] using this
end
end Go.Proofs.YtemodkjmdalmlaaDoor

/- The reference's transcript: words, values, what is hashed. -/
namespace Go.Proofs.YtemodkjmdalmlaaDoor
open Go.RowKit Go.Proofs.K

theorem word_walk (x k : Nat) : IntKind.u8.wrap (((x / 256 ^ k : Nat) : Int).tmod 256) = ((byteAt x k : Nat) : Int) := by
  rw [show (256 : Int) = ((256 : Nat) : Int) from rfl, tmod_nat, u8_nat]; simp [byteAt]

set_option maxHeartbeats 1000000 in
theorem rword (x : Nat) (hx : x < 18446744073709551616) (w : World) :
    Calls Tryd.prog 55 #[.int .u64 (x : Nat)] w fun e w' => ∃ q, e = .returned q ∧ Ext w w' ∧ w'.ownsRow w.heap.size 5 1 q 8 (ints .u8 (word x 8)) := by
  refine calls_W Tryd.func55 rfl Tryd.ntmps55 rfl ?_
  (refine W_seq ?_; refine W_region ?_; refine Ls (X_assign (v := .slice _ _ _) rfl) ?_; refine L_nil ?_; refine tn ?_; refine W_seq ?_; refine W_region ?_)
  refine L_lit0 ?_
  intro q1 w1 E1 hs1 o1
  (refine Ls (X_assign (v := q1) rfl) ?_; refine L_nil ?_; refine tn ?_; refine W_seq ?_; refine W_seq ?_; refine W_region ?_; refine Ls (X_assign (v := .int _ _) rfl) ?_; refine L_nil ?_; refine tn ?_; refine W_block ?_)
  refine W_loop (fun q f w' => ∃ k v', q = 8 - k ∧ k ≤ 8 ∧ f 0 = .int .u64 ((x / 256 ^ k : Nat) : Int) ∧ f 3 = v' ∧ f 4 = .int .i64 (k : Nat) ∧ w'.ownsRow w.heap.size 5 1 v' k (ints .u8 (word x k)) ∧ Ext w w') 8 ?_ ?_
  · exact ⟨0, q1, rfl, by omega, show Value.int .u64 (x : Nat) = _ by rw [Nat.pow_zero, Nat.div_one], rfl, rfl, o1, E1⟩
  · rintro q f wr ⟨k, v', rfl, hk, h0, h3, h4, ho, E⟩
    rw [fold h0, fold h3, fold h4]
    (refine W_seq ?_; refine W_seq ?_; refine W_region ?_; refine Ls (X_move (v := .int _ _) rfl) ?_; refine Ls (X_lss rfl rfl) ?_; refine L_nil ?_; refine tn ?_)
    refine W_condp rfl (fun h => ?_) (fun h => ?_)
    · have hk8 : k < 8 := by omega
      (refine W_skip ?_; refine tn ?_; refine W_seq ?_; refine W_block ?_; refine W_seq ?_; refine W_region ?_; refine Ls (X_move (v := v') rfl) ?_; refine Ls (X_move (v := .int _ _) rfl) ?_; refine Ls (X_rem rfl rfl (by omega)) ?_; refine Ls (X_conv rfl) ?_)
      refine L_lit1 (v := .int _ _) rfl rfl ?_
      intro u w3 hr E3 _ _
      rw [word_walk] at hr
      refine L_append (v := v') (u := u) rfl rfl (own_ext ho E3) hr (by simp [Value.oneCell']) (by omega) (by omega) (by have := E.size; have := E3.size; omega) ?_
      intro v2 w4 ho2 hg2 hb2
      (refine Ls (X_assign (v := v2) rfl) ?_; refine L_nil ?_; refine tn ?_; refine W_region ?_; refine Ls (X_move (v := .int _ _) rfl) ?_; refine Ls (X_quo rfl rfl (by omega)) ?_; refine Ls (X_assign (v := .int _ _) rfl) ?_; refine L_nil ?_; refine bn ?_; refine tn ?_; refine W_region ?_; refine Ls (X_move (v := .int _ _) rfl) ?_; refine Ls (X_addi rfl rfl (by omega)) ?_; refine Ls (X_assign (v := .int _ _) rfl) ?_; refine L_nil ?_; refine tn ?_)
      refine ⟨8 - (k + 1), by omega, k + 1, v2, rfl, by omega, congrArg (Value.int IntKind.u64) ?_, rfl, rfl, ?_, (E.trans E3).then hg2 (fun g h => (ho.lt g h).1)⟩
      · rw [show (256 : Int) = ((256 : Nat) : Int) from rfl, tdiv_nat, Nat.div_div_eq_div_mul, Nat.pow_succ, u64_nat, Nat.mod_eq_of_lt (Nat.lt_of_le_of_lt (Nat.div_le_self _ _) hx)]
      · rw [word_succ, ints_app]
        exact ho2
    · (refine W_exit ?_; refine te ?_; refine te ?_; refine bx ?_; refine tn ?_; refine W_seq ?_; refine W_region ?_; refine Ls (X_move (v := v') rfl) ?_; refine Ls (X_assign (v := v') rfl) ?_; refine L_nil ?_; refine tn ?_; refine W_ret ?_)
      refine endQ_ret1 rfl rfl (v := v') rfl ?_
      obtain rfl : k = 8 := by omega
      exact ⟨v', rfl, E, ho⟩

theorem val_walk (A b : Nat) (h : b + 256 * A < 18446744073709551616) : IntKind.u64.wrap (IntKind.u64.wrap ((A : Int) * 256) + IntKind.u64.wrap (b : Int)) = ((b + 256 * A : Nat) : Int) := by
  rw [IntKind.wrap_u64, IntKind.wrap_u64, IntKind.wrap_u64]; omega
set_option maxHeartbeats 1000000 in
theorem rvalue (lo hi : Nat) (v : Value) (l : List Nat) (hl : l.length ≤ 1000000000) (hb : ∀ x ∈ l, x < 256) (i : Nat) (hil : i + 8 ≤ l.length) (w : World) (hr : Row w lo hi 1 v l.length (ints .u8 l)) :
    Calls Tryd.prog 18 #[v, .int .i64 (i : Nat)] w fun e w' => e = .returned (.int .u64 (Tr.valAt l i : Nat)) ∧ Ext w w' := by
  refine calls_W Tryd.func18 rfl Tryd.ntmps18 rfl ?_
  (refine W_seq ?_; refine W_region ?_; refine Ls (X_assign (v := .int _ _) rfl) ?_; refine L_nil ?_; refine tn ?_; refine W_seq ?_; refine W_region ?_; refine Ls (X_assign (v := .int _ _) rfl) ?_; refine L_nil ?_; refine tn ?_; refine W_seq ?_; refine W_seq ?_; refine W_region ?_; refine Ls (X_assign (v := .int _ _) rfl) ?_; refine L_nil ?_; refine tn ?_; refine W_block ?_)
  refine W_loop (fun q f w' => ∃ m, q = m ∧ m ≤ 8 ∧ f 0 = v ∧ f 1 = .int .i64 (i : Nat) ∧ f 5 = .int .u64 (Tr.leVal (((l.drop i).take 8).drop m) : Nat) ∧ f 6 = .int .i64 ((m : Int) - 1) ∧ Ext w w') 8 ?_ ?_
  · refine ⟨8, rfl, by omega, rfl, rfl, ?_, rfl, Ext.refl w⟩
    rw [List.drop_eq_nil_of_le (by simp; omega)]; rfl
  · rintro q f wr ⟨m, rfl, hm, h0, h1, h5, h6, E⟩
    rw [fold h0, fold h1, fold h5, fold h6]
    (refine W_seq ?_; refine W_seq ?_; refine W_region ?_; refine Ls (X_move (v := .int _ _) rfl) ?_; refine Ls (X_geq rfl rfl) ?_; refine L_nil ?_; refine tn ?_)
    refine W_condp rfl (fun h => ?_) (fun h => ?_)
    · obtain ⟨k, rfl⟩ : ∃ k, q = k + 1 := ⟨q - 1, by omega⟩
      obtain ⟨b, o, c, rfl, hc, _, _, hR⟩ := (hr.ext E).at (k := i + k) (by omega)
      have e6 : (((k + 1 : Nat) : Int) - 1) = ((k : Nat) : Int) := by omega
      rw [e6]
      (refine W_skip ?_; refine tn ?_; refine W_seq ?_; refine W_block ?_; refine W_region ?_; refine Ls (X_move (v := .int _ _) rfl) ?_; refine Ls (X_mul rfl rfl) ?_; refine Ls (X_move (v := .slice _ _ _) rfl) ?_; refine Ls (X_move (v := .int _ _) rfl) ?_; refine Ls (X_move (v := .int _ _) rfl) ?_; refine Ls (X_addi rfl rfl (by omega)) ?_; refine Ls (X_indexSn rfl rfl (by omega)) ?_; refine Ls (X_ldRI rfl hR (by omega)) ?_; refine Ls (X_conv rfl) ?_; refine Ls (X_add rfl rfl) ?_; refine Ls (X_assign (v := .int _ _) rfl) ?_; refine L_nil ?_; refine bn ?_; refine tn ?_; refine W_region ?_; refine Ls (X_move (v := .int _ _) rfl) ?_; refine Ls (X_subi rfl rfl (by omega)) ?_; refine Ls (X_assign (v := .int _ _) rfl) ?_; refine L_nil ?_; refine tn ?_)
      refine ⟨k, by omega, k, rfl, by omega, rfl, rfl, congrArg (Value.int IntKind.u64) ?_, rfl, E⟩
      have hlt := Tr.drop_lt hb i k (by omega)
      have : (256 : Nat) ^ (8 - k) ≤ 256 ^ 8 := Nat.pow_le_pow_right (by omega) (by omega)
      rw [Tr.valAt_step l i k (by omega) hil] at hlt ⊢
      exact val_walk _ _ (by omega)
    · obtain rfl : q = 0 := by omega
      (refine W_exit ?_; refine te ?_; refine te ?_; refine bx ?_; refine tn ?_; refine W_seq ?_; refine W_region ?_; refine Ls (X_move (v := .int _ _) rfl) ?_; refine Ls (X_assign (v := .int _ _) rfl) ?_; refine L_nil ?_; refine tn ?_; refine W_ret ?_)
      refine endQ_ret1 rfl rfl (v := .int _ _) rfl ?_
      exact ⟨rfl, E⟩
end Go.Proofs.YtemodkjmdalmlaaDoor

/- The reference's transcript: what is hashed, and its hashes. -/
namespace Go.Proofs.YtemodkjmdalmlaaDoor
open Go.RowKit Go.Proofs.K

set_option maxHeartbeats 1000000 in
theorem rtagged (s : List Nat) (c tag : Nat) (hs : s.length = 32) (lab : ByteArray) (hl : lab.size ≤ 100000000) (w : World) :
    Calls Tryd.prog 54 #[.agg (trC s c).toArray, .int .u8 (tag : Nat), .string lab] w fun e w' => ∃ q, e = .returned q ∧ Ext w w' ∧ w'.ownsRow w.heap.size 5 1 q (34 + lab.size) (ints .u8 (Tr.pre s tag (sb lab))) := by
  refine calls_W Tryd.func54 rfl Tryd.ntmps54 rfl ?_
  (refine W_seq ?_; refine W_region ?_)
  refine L_box rfl ?_
  intro g1 w1 B1 hg1 E1 hs1
  (refine Ls (X_assign (v := .slice _ _ _) rfl) ?_; refine L_nil ?_; refine tn ?_; refine W_seq ?_; refine W_region ?_; refine Ls (X_fld rfl) ?_; refine Ls (X_ldA rfl B1 (trC_state hs) (by rw [ints_len, hs])) ?_)
  refine L_fo rfl (bytes s hs w1) ?_
  rintro q2 w2 ⟨E2, o2⟩
  (refine Ls (X_move (v := .int _ _) rfl) ?_; refine Ls (X_move (v := .string _) rfl) ?_; refine Ls (X_lenStr rfl) ?_; refine Ls (X_conv rfl) ?_)
  refine L_lit2 (v := .int _ _) (u := .int _ _) rfl rfl rfl rfl ?_
  intro q3 w3 r3 E3 hs3 o3
  rw [u8_nat] at r3
  have o2' := own_ext o2 E3
  refine L_fo rfl (join _ _ _ _ q2 q3 s [tag, lab.size % 256] w3 ((Row.of_own o2').re hs.symm rfl) r3 (by simp; omega)) ?_
  rintro q4 w4 ⟨E4, o4⟩
  (refine Ls (X_assign (v := q4) rfl) ?_; refine L_nil ?_; refine tn ?_; refine W_seq ?_; refine W_region ?_; refine Ls (X_move (v := q4) rfl) ?_; refine Ls (X_move (v := .string _) rfl) ?_)
  refine L_toBytes rfl (by unfold maxLen; omega) ?_
  intro q5 w5 E5 r5
  have h34 : (s ++ [tag, lab.size % 256]).length = 34 := by simp [hs]
  have o4' := own_ext o4 E5
  refine L_fo rfl (join _ _ _ _ q4 q5 (s ++ [tag, lab.size % 256]) (sb lab) w5 ((Row.of_own o4').re (by simp) rfl) (r5.re (sb_len lab).symm rfl) (by rw [h34, sb_len]; omega)) ?_
  rintro q6 w6 ⟨E6, o6⟩
  (refine Ls (X_assign (v := q6) rfl) ?_; refine L_nil ?_; refine tn ?_; refine W_ret ?_)
  refine endQ_ret1 rfl rfl (v := q6) rfl ?_
  have E : Ext w w5 := E1.trans (E2.trans (E3.trans (E4.trans E5)))
  refine ⟨q6, rfl, E.trans E6, ?_⟩
  have := own_base o6 E.size
  rw [h34, sb_len] at this
  simpa [Tr.pre, sb_len] using this

set_option maxHeartbeats 1000000 in
theorem rnew (lab : ByteArray) (hl : lab.size ≤ 100000000) (w : World) :
    Calls Tryd.prog 28 #[.string lab] w fun e w' => e = .returned (.agg (trC (Tr.new (sb lab)) 0).toArray) ∧ Ext w w' := by
  refine calls_W Tryd.func28 rfl Tryd.ntmps28 rfl ?_
  (refine W_seq ?_; refine W_region ?_)
  refine L_alloc ?_
  intro g1 w1 B1 hg1 E1 hs1
  (refine L_nil ?_; refine tn ?_; refine W_seq ?_; refine W_region ?_)
  refine L_lits (zs' := (ints .u8 Tr.head).map fun x => [x]) (cs := ints .u8 Tr.head) ?_ rfl rfl rfl rfl ?_
  · repeat (first | exact Parts.nil _ | refine Parts.cons rfl rfl rfl rfl ?_)
  intro q2 w2 r2 E2 hs2 _ _
  refine L_markB rfl r2 (by omega) ?_
  intro w3 b3 hb3 hb3' hg3 r3 hs3
  (refine Ls (X_move (v := .string _) rfl) ?_)
  refine L_toBytes rfl (by unfold maxLen; omega) ?_
  intro q4 w4 E4 r4
  refine L_fo rfl (join _ _ _ _ q2 q4 Tr.head (sb lab) w4 (r3.ext E4) (r4.re (sb_len lab).symm rfl) (by rw [sb_len]; simp [Tr.head]; omega)) ?_
  rintro q5 w5 ⟨E5, o5⟩
  have hok : Sha.bytesOk (Tr.head ++ sb lab) := by
    intro x hx
    rcases List.mem_append.1 hx with hx | hx
    · exact (show ∀ y ∈ Tr.head, y < 256 by decide) x hx
    · exact sb_lt lab x hx
  refine L_fv rfl (sum _ _ q5 (Tr.head ++ sb lab) hok w5 ((Row.of_own o5).re (by simp) rfl) (by rw [List.length_append, sb_len]; simp [Tr.head]; omega)) ?_
  intro w6 E6
  refine Ls (X_mkTr1 (Tr.new_len (sb lab)) rfl) ?_
  have Ea : Ext w w3 := (E1.trans E2).then hg3 (fun g h => by cases h; have := E1.size; omega)
  have Eb := E4.trans (E5.trans E6)
  have B3 := (B1.ext E2).grown hg3 (by simp; omega)
  refine L_storeW rfl rfl (trC_len (Tr.new_len _)) trC_cell (B3.ext Eb) rfl ?_
  intro w7 B7 hg7 _
  (refine L_nil ?_; refine tn ?_; refine W_ret ?_)
  refine endQ_res rfl rfl (Res.cellA inferInstance rfl (B7.range (fun j u h => by simpa using h)) (trC_len (Tr.new_len _)) .nil) ?_
  exact ⟨rfl, (Ea.trans Eb).then hg7 (fun g h => by cases h; omega)⟩

set_option maxHeartbeats 1000000 in
theorem rabsorb (lo hi : Nat) (s : List Nat) (c : Nat) (hs : s.length = 32) (hs8 : ∀ x ∈ s, x < 256) (lab : ByteArray) (hl : lab.size ≤ 100000000) (v : Value) (b : List Nat) (hb8 : ∀ x ∈ b, x < 256) (hb : b.length ≤ 100000000) (w : World) (hr : Row w lo hi 1 v b.length (ints .u8 b)) :
    Calls Tryd.prog 29 #[.agg (trC s c).toArray, .string lab, v] w fun e w' => e = .returned (.agg (trC (Tr.absorb s (sb lab) b) 0).toArray) ∧ Ext w w' := by
  refine calls_W Tryd.func29 rfl Tryd.ntmps29 rfl ?_
  (refine W_seq ?_; refine W_region ?_)
  refine L_box rfl ?_
  intro g1 w1 B1 hg1 E1 hs1
  refine L_alloc ?_
  intro g2 w2 B2 hg2 E2 hs2
  (refine L_nil ?_; refine tn ?_; refine W_seq ?_; refine W_region ?_; refine Ls (X_ldW rfl (B1.ext E2) (trC_len hs)) ?_; refine Ls (X_move (v := .string _) rfl) ?_)
  refine L_fo rfl (rtagged s c 1 hs lab hl w2) ?_
  rintro q3 w3 ⟨E3, o3⟩
  (refine Ls (X_move (v := v) rfl) ?_; refine Ls (X_lenRow (v := v) rfl hr) ?_; refine Ls (X_conv rfl) ?_)
  have e64 : IntKind.u64.wrap ((b.length : Nat) : Int) = ((b.length : Nat) : Int) := by rw [u64_nat, Nat.mod_eq_of_lt (by omega)]
  rw [e64]
  refine L_fo rfl (rword b.length (by omega) w3) ?_
  rintro q4 w4 ⟨E4, o4⟩
  have o3' := own_ext o3 E4
  have hpl : (Tr.pre s 1 (sb lab)).length = 34 + lab.size := by rw [Tr.pre_len, hs, sb_len]
  refine L_fo rfl (join _ _ _ _ q3 q4 (Tr.pre s 1 (sb lab)) (word b.length 8) w4 ((Row.of_own o3').re hpl.symm rfl) ((Row.of_own o4).re (word_len _ _).symm rfl) (by rw [hpl, word_len]; omega)) ?_
  rintro q5 w5 ⟨E5, o5⟩
  (refine Ls (X_assign (v := q5) rfl) ?_; refine L_nil ?_; refine tn ?_; refine W_seq ?_; refine W_region ?_; refine Ls (X_move (v := q5) rfl) ?_; refine Ls (X_move (v := v) rfl) ?_)
  have Ea := E1.trans (E2.trans (E3.trans (E4.trans E5)))
  refine L_fo rfl (join _ _ _ _ q5 v (Tr.pre s 1 (sb lab) ++ word b.length 8) b w5 ((Row.of_own o5).re (by simp) rfl) (hr.ext Ea) (by rw [List.length_append, hpl, word_len]; omega)) ?_
  rintro q6 w6 ⟨E6, o6⟩
  have hok : Sha.bytesOk (Tr.pre s 1 (sb lab) ++ word b.length 8 ++ b) := by
    intro x hx
    simp only [List.mem_append] at hx
    rcases hx with (hx | hx) | hx
    · exact Tr.pre_lt hs8 (by omega) (sb_lt lab) x hx
    · exact Tr.word_lt _ _ x hx
    · exact hb8 x hx
  refine L_fv rfl (sum _ _ q6 (Tr.pre s 1 (sb lab) ++ word b.length 8 ++ b) hok w6 ((Row.of_own o6).re (by simp; omega) rfl) (by simp only [List.length_append, hpl, word_len]; omega)) ?_
  intro w7 E7
  refine Ls (X_mkTr1 (Tr.absorb_len s (sb lab) b) rfl) ?_
  have Eb := E3.trans (E4.trans (E5.trans (E6.trans E7)))
  refine L_storeW rfl rfl (trC_len (Tr.absorb_len _ _ _)) trC_cell (B2.ext Eb) rfl ?_
  intro w8 B8 hg8 _
  (refine L_nil ?_; refine tn ?_; refine W_ret ?_)
  refine endQ_res rfl rfl (Res.cellA inferInstance rfl (B8.range (fun j u h => by simpa using h)) (trC_len (Tr.absorb_len _ _ _)) .nil) ?_
  exact ⟨rfl, (Ea.trans (E6.trans E7)).then hg8 (fun g h => by cases h; have := E1.size; omega)⟩

set_option maxHeartbeats 1000000 in
theorem routput (s : List Nat) (c tag : Nat) (hs : s.length = 32) (hs8 : ∀ x ∈ s, x < 256) (hc : c < 18446744073709551616) (ht : tag < 256) (lab : ByteArray) (hl : lab.size ≤ 100000000) (w : World) :
    Calls Tryd.prog 41 #[.agg (trC s c).toArray, .int .u8 (tag : Nat), .string lab] w fun e w' => ∃ q, e = .returned q ∧ Ext w w' ∧ w'.ownsRow w.heap.size 5 1 q 32 (ints .u8 (Tr.output s c tag (sb lab))) := by
  refine calls_W Tryd.func41 rfl Tryd.ntmps41 rfl ?_
  have hpl : (Tr.pre s tag (sb lab)).length = 34 + lab.size := by rw [Tr.pre_len, hs, sb_len]
  have hok : Sha.bytesOk (Tr.pre s tag (sb lab) ++ word c 8) := by
    intro x hx
    rcases List.mem_append.1 hx with hx | hx
    · exact Tr.pre_lt hs8 ht (sb_lt lab) x hx
    · exact Tr.word_lt _ _ x hx
  (refine W_seq ?_; refine W_region ?_)
  refine L_box rfl ?_
  intro g1 w1 B1 hg1 E1 hs1
  (refine Ls (X_assign (v := .slice _ _ _) rfl) ?_; refine L_nil ?_; refine tn ?_; refine W_seq ?_)
  apply W_dagE 10 (by kernel_rfl)
  (apply DW_x (fun r w hA hH => (X_ldW rfl (B1.ext hA) (trC_len hs)).trans rfl); apply DW_x (fun r w hA hH => (X_move (v := .int _ _) rfl).trans rfl); apply DW_x (fun r w hA hH => (X_move (v := .string _) rfl).trans rfl))
  ((with_reducible apply DW_fo); (exact fun _ => rfl); (exact fun _ => rfl); (exact fun r w hA hH => calls_own hA (rtagged s c tag hs lab hl w)); (exact fun _ _ _ _ _ _ E h => OwnF.ext E h))
  (apply DW_x (fun r w hA hH => (X_fld rfl).trans rfl); apply DW_x (fun r w hA hH => (X_ld rfl (B1.ext hA) (trC_ctr hs)).trans rfl))
  ((with_reducible apply DW_fo); (exact fun _ => rfl); (exact fun _ => rfl); (exact fun r w hA hH => calls_own hA (rword c hc w)); (exact fun _ _ _ _ _ _ E h => OwnF.ext E h))
  ((with_reducible apply DW_fo); (exact fun _ => rfl); (exact fun _ => rfl); (exact fun r w hA hH => calls_own hA ((by
    obtain ⟨b3, _, o3⟩ := hH 3 rfl
    obtain ⟨b6, _, o6⟩ := hH 6 rfl
    exact join _ _ _ _ (r 3) (r 6) (Tr.pre s tag (sb lab)) (word c 8) w ((Row.of_own o3).re hpl.symm rfl) ((Row.of_own o6).re (word_len _ _).symm rfl) (by rw [hpl, word_len]; omega)))); (exact fun _ _ _ _ _ _ E h => OwnF.ext E h))
  ((with_reducible apply DW_fn); (exact fun _ => rfl); (exact fun _ => rfl); (exact fun r w hA hH => (by
    obtain ⟨b7, _, o7⟩ := hH 7 rfl
    exact sum _ _ (r 7) (Tr.pre s tag (sb lab) ++ word c 8) hok w ((Row.of_own o7).re (by simp) rfl) (by rw [List.length_append, hpl, word_len]; omega))))
  ((with_reducible apply DW_fo); (exact fun _ => rfl); (exact fun _ => rfl); (exact fun r w hA hH => calls_own hA (bytes (Sha.sum (Tr.pre s tag (sb lab) ++ word c 8)) (Sha.sum_len _) w)); (exact fun _ _ _ _ _ _ E h => OwnF.ext E h))
  ((with_reducible exact D_end); (exact rfl); (repeat (first | exact trivial | (refine And.intro ?_ ?_) | exact .inr (.inr (fun _ _ => rfl)) | exact .inl (by decide) | exact .inr (.inl rfl))); (try dsimp only [Nat.reduceAdd]))
  intro r w2 E2 H2
  obtain ⟨b9, hb9, o9⟩ : OwnF w1 5 1 (r 9) 32 (ints .u8 (Tr.output s c tag (sb lab))) w2 := H2 9
  generalize r 9 = q9 at *
  (refine Ls (X_assign (v := q9) rfl) ?_; refine L_nil ?_; refine tn ?_; refine W_ret ?_)
  refine endQ_ret1 rfl rfl (v := q9) rfl ?_
  exact ⟨q9, rfl, E1.trans E2, own_base o9 (by have := E1.size; omega)⟩

theorem reduce1 (x : Nat) (w : World) :
    Calls Tryd.prog 43 #[.int .u64 (x : Nat)] w fun e w' => e = .returned (.int .u64 ((x % Tr.pr : Nat) : Int)) ∧ Ext w w' := by
  refine calls_W Tryd.func43 rfl Tryd.ntmps43 rfl ?_
  (refine W_seq ?_; refine W_region ?_; refine Ls (X_assign (v := .int _ _) rfl) ?_; refine L_nil ?_; refine tn ?_; refine W_seq ?_; refine W_region ?_; refine Ls (X_move (v := .int _ _) rfl) ?_; refine Ls (X_remi rfl rfl (by omega)) ?_; refine Ls (X_assign (v := .int _ _) rfl) ?_; refine L_nil ?_; refine tn ?_; refine W_ret ?_)
  refine endQ_ret1 rfl rfl (v := .int _ _) rfl ?_
  exact ⟨by rw [← tmod_nat]; rfl, Ext.refl w⟩
theorem valid1 (x : Nat) (w : World) :
    Calls Tryd.prog 22 #[.int .u64 (x : Nat)] w fun e w' => e = .returned (.bool (decide (x < Tr.pr))) ∧ Ext w w' := by
  refine calls_W Tryd.func22 rfl Tryd.ntmps22 rfl ?_
  (refine W_seq ?_; refine W_region ?_; refine Ls (X_assign (v := .bool _) rfl) ?_; refine L_nil ?_; refine tn ?_; refine W_seq ?_; refine W_region ?_; refine Ls (X_move (v := .int _ _) rfl) ?_; refine Ls (X_lss rfl rfl) ?_; refine Ls (X_assign (v := .bool _) rfl) ?_; refine L_nil ?_; refine tn ?_; refine W_ret ?_)
  refine endQ_ret1 rfl rfl (v := .bool _) rfl ?_
  have e : decide ((x : Int) < 18446744069414584321) = decide (x < Tr.pr) := decide_eq_decide.2 (by unfold Tr.pr; omega)
  exact ⟨by rw [e], Ext.refl w⟩

set_option maxHeartbeats 1000000 in
theorem rchallenge (s : List Nat) (c : Nat) (hs : s.length = 32) (hs8 : ∀ x ∈ s, x < 256) (hc : c < 18446744073709551616) (lab : ByteArray) (hl : lab.size ≤ 100000000) (w : World) :
    Calls Tryd.prog 27 #[.agg (trC s c).toArray, .string lab] w fun e w' => e = .returned (.tuple #[.agg (trC s ((c + 1) % 18446744073709551616)).toArray, .agg (exC (Tr.valAt (Tr.output s c 2 (sb lab)) 0 % Tr.pr) (Tr.valAt (Tr.output s c 2 (sb lab)) 8 % Tr.pr)).toArray]) ∧ Ext w w' := by
  refine calls_W Tryd.func27 rfl Tryd.ntmps27 rfl ?_
  (refine W_seq ?_; refine W_region ?_)
  refine L_box rfl ?_
  intro g1 w1 B1 hg1 E1 hs1
  skip
  refine L_alloc ?_
  intro g2 w2 B2 hg2 E2 hs2
  refine L_alloc ?_
  intro g3 w3 B3 hg3 E3 hs3
  (refine L_nil ?_; refine tn ?_; refine W_seq ?_; refine W_region ?_; refine Ls (X_ldW rfl ((B1.ext E2).ext E3) (trC_len hs)) ?_; refine Ls (X_move (v := .string _) rfl) ?_)
  refine L_fo rfl (routput s c 2 hs hs8 hc (by omega) lab hl w3) ?_
  rintro q4 w4 ⟨E4, o4⟩
  (refine Ls (X_assign (v := q4) rfl) ?_; refine L_nil ?_; refine tn ?_; refine W_seq ?_; refine W_region ?_; refine Ls (X_fld rfl) ?_)
  (refine Ls (X_ld rfl (((B1.ext E2).ext E3).ext E4) (trC_ctr hs)) ?_; refine Ls (X_add rfl rfl) ?_; refine Ls (X_fld rfl) ?_)
  refine L_store1 (v := .int _ _) rfl rfl rfl (((B1.ext E2).ext E3).ext E4) (by rw [trC_len hs]; omega) ?_
  intro w5 B5 hg5 hs5
  have e5 : (trC s c).set 32 (.int .u64 (IntKind.u64.wrap ((c : Int) + 1))) = trC s ((c + 1) % 18446744073709551616) := by
    rw [show (c : Int) + 1 = ((c + 1 : Nat) : Int) by omega, u64_nat]
    simp [trC, ints_len, hs]
  rw [show (0 + 32) = 32 from rfl, e5] at B5
  have Ea : Ext w w5 := (E1.trans (E2.trans (E3.trans E4))).then hg5 (fun g h => by cases h; omega)
  have hs4 := E4.size
  have C2 := ((B2.ext E3).ext E4).grown hg5 (by simp; omega)
  have C3 := (B3.ext E4).grown hg5 (by simp; omega)
  have ro := (Row.of_own o4).grown hg5 (fun g h => by cases h; omega)
  have hol : (Tr.output s c 2 (sb lab)).length = 32 := Tr.output_len _ _ _ _
  have hob : ∀ x ∈ Tr.output s c 2 (sb lab), x < 256 := Tr.sum_lt _
  have hrow := ro.re hol.symm rfl
  obtain ⟨O, hO⟩ : ∃ O, O = Tr.output s c 2 (sb lab) := ⟨_, rfl⟩
  rw [← hO] at hrow hol hob ⊢
  (refine L_nil ?_; refine tn ?_; refine W_seq ?_)
  apply W_dagR (R := RB g2 34 _ _) (AB g2 34 _ (trC s ((c + 1) % 18446744073709551616)) w5) 9 (by kernel_rfl) (RB.refl _ _ _ _) (AB.new C2) AB.step
  (apply DW_x (fun r w hA hH => (X_ldW rfl (B5.grown hA.1 (by simp; omega)) (trC_len hs)).trans rfl); apply DW_x (fun r w hA hH => (X_move (v := q4) rfl).trans rfl))
  ((with_reducible apply DW_fn); (exact fun _ => rfl); (exact fun _ => rfl); (exact fun r w hA hH => rvalue _ _ q4 O (by omega) hob 0 (by omega) w (hrow.grown hA.1 (fun g h => by cases h; omega))))
  ((with_reducible apply DW_fn); (exact fun _ => rfl); (exact fun _ => rfl); (exact fun r w hA hH => reduce1 _ w))
  (apply DW_x (fun r w hA hH => (X_move (v := q4) rfl).trans rfl))
  ((with_reducible apply DW_fn); (exact fun _ => rfl); (exact fun _ => rfl); (exact fun r w hA hH => rvalue _ _ q4 O (by omega) hob 8 (by omega) w (hrow.grown hA.1 (fun g h => by cases h; omega))))
  ((with_reducible apply DW_fn); (exact fun _ => rfl); (exact fun _ => rfl); (exact fun r w hA hH => reduce1 _ w))
  ((with_reducible apply DW_x); (exact fun r w hA hH => (X_mkEx rfl rfl).trans rfl))
  apply DW_store (fun _ => rfl) (fun _ => rfl) rfl (trC_len hs) trC_cell
  ((with_reducible exact D_end); (exact rfl); (repeat (first | exact trivial | (refine And.intro ?_ ?_) | exact .inr (.inr (fun _ _ => rfl)) | exact .inl (by decide) | exact .inr (.inl rfl))); (try dsimp only [Nat.reduceAdd]))
  intro r w7 A7 H7
  have B7 : Blk w7 g2 34 (trC s ((c + 1) % 18446744073709551616)) := H7 8
  have hs7 := A7.1.size
  refine L_storeW rfl rfl rfl exC_cell (C3.grown A7.1 (by simp; omega)) rfl ?_
  intro w8 B8 hg8 hs8
  have B7' := B7.grown hg8 (by simp; omega)
  (refine L_nil ?_; refine tn ?_; refine W_ret ?_)
  refine endQ_res rfl rfl (Res.cellA inferInstance rfl (B7'.range (fun j u h => by simpa using h)) (trC_len hs) (Res.cellA inferInstance rfl (B8.range (fun j u h => by simpa using h)) rfl .nil)) ?_
  exact ⟨rfl, (Ea.then A7.1 (fun g h => by cases h; omega)).then hg8 (fun g h => by cases h; omega)⟩
end Go.Proofs.YtemodkjmdalmlaaDoor

/- The transcript: what is hashed; New, Absorb. -/
namespace Go.Proofs.YtemodkjmdalmlaaDoor
open Go.RowKit Go.Proofs.K

/-- the two tables that are package-level variables -/
structure Tabs (w : World) : Prop where
  k : Rng w 1 (ints .u32 Sha.ks)
  i : Rng w 0 (ints .u32 Sha.iv.list)
theorem Tabs.ext {w w' : World} (h : Tabs w) (E : Ext w w') : Tabs w' := ⟨h.k.ext E, h.i.ext E⟩
theorem Tabs.grown {w w' : World} {g : Nat} (h : Tabs w) (E : w.grownBy w' (some g)) (h1 : g ≠ 1) (h2 : g ≠ 0) : Tabs w' := ⟨h.k.grown E (by simp; omega), h.i.grown E (by simp; omega)⟩
theorem Row.of_blk {w : World} {g o m c : Nat} {T : TypeId} {cs xs : List Value} (h : Blk w g T cs) (hc : m ≤ c) (hm : c ≤ maxLen) (hl : xs.length = m) (hx : ∀ j u, xs[j]? = some u → cs[o + j]? = some u) : Row w 0 w.heap.size 1 (.slice (some ⟨g, o, none⟩) m c) m xs :=
  ⟨by omega, _, _, rfl, hc, hm, fun _ => ⟨g, o, rfl, Nat.zero_le _, h.lt, h.range hx⟩⟩
theorem Row.of_blkG {w : World} {g o m c : Nat} {T : TypeId} {cs xs : List Value} (h : Blk w g T cs) (hc : m ≤ c) (hm : c ≤ maxLen) (hl : xs.length = m) (hx : ∀ j u, xs[j]? = some u → cs[o + j]? = some u) : Row w g (g + 1) 1 (.slice (some ⟨g, o, none⟩) m c) m xs :=
  ⟨by omega, _, _, rfl, hc, hm, fun _ => ⟨g, o, rfl, Nat.le_refl _, Nat.lt_succ_self _, h.range hx⟩⟩

set_option maxHeartbeats 1000000 in
theorem gtagged (s : List Nat) (c tag : Nat) (hs : s.length = 32) (hs8 : ∀ x ∈ s, x < 256) (ht : tag < 256) (lab : ByteArray) (hl : lab.size ≤ 100000000) (lo hi : Nat) (v : Value) (ps : List (Value × List Nat)) (hl2 : (cat ps ps.length).length ≤ 100000000) (hn : ps.length ≤ 1000) (hp8 : ∀ x ∈ cat ps ps.length, x < 256)
    (w : World) (hw : Tabs w) (hr : Row w lo hi 1 v ps.length (ps.map (·.1))) (hp : Parted w ps) :
    Calls Tryd.prog 52 #[.agg (trC s c).toArray, .int .u8 (tag : Nat), .string lab, v] w fun e w' => e = .returned (.agg (ints .u8 (Sha.sum (Tr.pre s tag (sb lab) ++ cat ps ps.length))).toArray) ∧ Ext w w' := by
  refine calls_W Tryd.func52 rfl Tryd.ntmps52 rfl ?_
  (refine W_seq ?_; refine W_region ?_)
  refine L_box rfl ?_
  intro g1 w1 B1 hg1 E1 hs1
  refine L_alloc ?_
  intro g2 w2 B2 hg2 E2 hs2
  (refine L_nil ?_; refine tn ?_; refine W_seq ?_; refine W_region ?_; refine Ls (X_fld rfl) ?_)
  refine Ls (X_arrAll rfl (by omega)) ?_
  have rs : Row w2 g1 (g1 + 1) 1 (.slice (some ⟨g1, 0 + 0, none⟩) 32 32) 32 (ints .u8 s) := Row.of_blkG (B1.ext E2) (Nat.le_refl _) (by unfold maxLen; omega) (by rw [ints_len, hs]) fun j u h => by
    have hj := (List.getElem?_eq_some_iff.1 h).1
    simp only [Nat.zero_add]
    unfold trC
    rw [List.getElem?_append_left hj]; exact h
  refine L_fo rfl (cloneB _ _ _ s (by omega) w2 (rs.re hs.symm rfl)) ?_
  rintro q3 w3 ⟨E3, o3⟩
  (refine Ls (X_move (v := .int _ _) rfl) ?_; refine Ls (X_move (v := .string _) rfl) ?_; refine Ls (X_lenStr rfl) ?_; refine Ls (X_conv rfl) ?_)
  refine L_lit2 (v := .int _ _) (u := .int _ _) rfl rfl rfl rfl ?_
  intro q4 w4 r4 E4 hs4 _
  refine L_append (v := q3) (u := q4) rfl rfl (own_ext o3 E4) r4 (by simp [Value.oneCell']) (by omega) (by omega) (by have := E3.size; have := E4.size; omega) ?_
  intro q5 w5 o5 hg5 _
  rw [u8_nat] at o5
  (refine Ls (X_assign (v := q5) rfl) ?_; refine L_nil ?_; refine tn ?_; refine W_seq ?_; refine W_region ?_; refine Ls (X_move (v := q5) rfl) ?_; refine Ls (X_move (v := .string _) rfl) ?_)
  refine L_appendS (v := q5) rfl rfl o5 (by omega) (by have := E3.size; have := E4.size; have := hg5.size; omega) ?_
  intro q6 w6 o6 hg6
  have E5 : Ext w2 w5 := (E3.trans E4).then hg5 (fun g h => (o3.lt g h).1)
  have E6 : Ext w2 w6 := E5.then hg6 (fun g h => (o5.lt g h).1)
  have Ea : Ext w w6 := (E1.trans E2).trans E6
  (refine Ls (X_assign (v := q6) rfl) ?_; refine L_nil ?_; refine tn ?_; refine W_seq ?_; refine W_region ?_; refine Ls (X_move (v := q6) rfl) ?_; refine Ls (X_move (v := v) rfl) ?_)
  refine L_fo rfl (concatB lo hi v ps (by omega) hn w6 (hr.ext Ea) (hp.ext Ea)) ?_
  rintro q7 w7 ⟨E7, o7⟩
  refine L_append (v := q6) (u := q7) rfl rfl (own_ext o6 E7) (Row.of_own o7) ints_cell (by omega) (by omega) (by have := E6.size; have := E7.size; omega) ?_
  intro q8 w8 o8 hg8 _
  have E8 : Ext w2 w8 := (E6.trans E7).then hg8 (fun g h => (o6.lt g h).1)
  have Eb : Ext w w8 := (E1.trans E2).trans E8
  have hok : Sha.bytesOk (Tr.pre s tag (sb lab) ++ cat ps ps.length) := by
    intro x hx
    rcases List.mem_append.1 hx with hx | hx
    · exact Tr.pre_lt hs8 ht (sb_lt lab) x hx
    · exact hp8 x hx
  have hpl : (Tr.pre s tag (sb lab) ++ cat ps ps.length).length = 34 + lab.size + (cat ps ps.length).length := by rw [List.length_append, Tr.pre_len, hs, sb_len]
  have hx8 : ints .u8 s ++ [Value.int .u8 (tag : Nat), Value.int .u8 ((lab.size % 256 : Nat) : Int)] ++ ints .u8 (sb lab) ++ ints .u8 (cat ps ps.length) = ints .u8 (Tr.pre s tag (sb lab) ++ cat ps ps.length) := by
    simp [Tr.pre, ints, sb_len]
  skip
  refine L_fv rfl (gsum _ _ q8 (Tr.pre s tag (sb lab) ++ cat ps ps.length) hok (by omega) w8 ((Row.of_own o8).re (by omega) hx8) (hw.ext Eb).k (hw.ext Eb).i) ?_
  intro w9 E9
  refine L_storeW (size := 32) rfl rfl (by rw [ints_len, Sha.sum_len]) ints_cell ((B2.ext E8).ext E9) rfl ?_
  intro w10 B10 hg10 _
  (refine L_nil ?_; refine tn ?_; refine W_ret ?_)
  refine endQ_res rfl rfl (Res.cellA inferInstance rfl (B10.range (fun j u h => by simpa using h)) (by rw [ints_len, Sha.sum_len]) .nil) ?_
  exact ⟨rfl, (Eb.trans E9).then hg10 (fun g h => by cases h; have := E1.size; omega)⟩
end Go.Proofs.YtemodkjmdalmlaaDoor

/- Words of bytes appended: transcript.appendWord. -/
namespace Go.Proofs.YtemodkjmdalmlaaDoor
open Go.RowKit Go.Proofs.K
set_option maxHeartbeats 400000 in
theorem appendWord (B m x : Nat) (v : Value) (xs : List Nat) (w : World) (hB : B ≤ w.heap.size) (hown : w.ownsRow B 5 1 v m (bvs xs)) (hm : m + 8 ≤ 1000000000) :
    Calls Tryd.prog 44 #[v, .int .u64 (x : Nat)] w fun e w' => ∃ v', e = .returned v' ∧ w'.ownsRow B 5 1 v' (m + 8) (bvs (xs ++ word x 8)) ∧ Grew w v w' v' ∧ Keeps 5 1 m w w' := by
  refine calls_W Tryd.func44 rfl Tryd.ntmps44 rfl ?_
  (refine W_seq ?_; refine W_region ?_; refine Ls (X_assign (v := .slice _ _ _) rfl) ?_; refine L_nil ?_; refine tn ?_; refine W_seq ?_; refine W_seq ?_; refine W_region ?_; refine Ls (X_move (v := .int _ _) rfl) ?_; refine L_nil ?_; refine tn ?_; refine W_block ?_)
  refine W_loop (fun q f w' => ∃ k v', q = 8 - k ∧ k ≤ 8 ∧ f 0 = v' ∧ f 1 = .int .u64 (x : Nat) ∧ f 6 = .int .i64 (k : Nat) ∧ w'.ownsRow B 5 1 v' (m + k) (bvs (xs ++ word x k)) ∧ Grew w v w' v' ∧ Keeps 5 1 m w w') 8 ?_ ?_
  · exact ⟨0, v, rfl, by omega, rfl, rfl, rfl, by simpa [word] using hown, Grew.refl _ _, Keeps.of_ext (Ext.refl _)⟩
  · rintro q f wr ⟨k, v', rfl, hk, h0, h1, h6, ho, hg, hkp⟩
    rw [fold h0, fold h1, fold h6]
    (refine W_seq ?_; refine W_region ?_; refine Ls (X_lss rfl rfl) ?_; refine L_nil ?_; refine tn ?_; refine W_seq ?_)
    refine W_condp rfl (fun h => ?_) (fun h => ?_)
    · (refine W_skip ?_; refine tn ?_; refine W_seq ?_; refine W_block ?_; refine W_seq ?_; refine W_region ?_; refine Ls (X_move (v := .int _ _) rfl) ?_; refine Ls (X_assign (v := .int _ _) rfl) ?_; refine L_nil ?_; refine tn ?_; refine W_region ?_; refine Ls (X_move (v := v') rfl) ?_; refine Ls (X_move (v := .int _ _) rfl) ?_; refine Ls (X_move (v := .int _ _) rfl) ?_; refine Ls (X_muli rfl rfl (by omega)) ?_; refine Ls (X_shr rfl rfl (by omega)) ?_; refine Ls (X_conv rfl) ?_)
      refine L_lit1 (v := .int _ _) rfl rfl ?_
      intro u w1 hr E1 _ _
      rw [shr_byte x k (by omega)] at hr
      refine L_appendK (v := v') (u := u) rfl rfl (own_ext ho E1) hr (by simp [Value.oneCell']) (by omega) (by omega) (by have := hg.g.size; have := E1.size; omega) ?_
      intro v2 w2 ho2 hg2 hb2 hk2
      (refine Ls (X_assign (v := v2) rfl) ?_; refine L_nil ?_; refine bn ?_; refine tn ?_; refine W_region ?_; refine Ls (X_addi rfl rfl (by omega)) ?_; refine Ls (X_move (v := .int _ _) rfl) ?_; refine L_nil ?_; refine tn ?_)
      refine ⟨8 - (k + 1), by omega, k + 1, v2, rfl, by omega, rfl, rfl, rfl, ?_, (hg.ext E1).trans (Grew.app hg2 hb2), (hkp.trans (Keeps.of_ext (m := m) E1) (Nat.le_refl _)).trans hk2 (by omega)⟩
      rw [word_succ, ← List.append_assoc, bvs_app, bvs_one]
      exact ho2
    · (refine W_exit ?_; refine te ?_; refine te ?_; refine bx ?_; refine tn ?_; refine W_seq ?_; refine W_region ?_; refine Ls (X_move (v := v') rfl) ?_; refine Ls (X_assign (v := v') rfl) ?_; refine L_nil ?_; refine tn ?_; refine W_ret ?_)
      refine endQ_ret1 rfl rfl (v := v') rfl ?_
      obtain rfl : k = 8 := by omega
      exact ⟨v', rfl, ho, hg, hkp⟩
end Go.Proofs.YtemodkjmdalmlaaDoor
