/- KE, KF, KG, KH, KI, T, KV, SO, F, N1, E1, E2, E3, E4, E5, E6, FA, FB, KU, FC, FD, FE, FF, FG, KW. -/
import Derived.Test.YtpohjepbmgeplaaGreatDoorQ1
import Derived.Shelf.Abstract
import Derived.Laws.CopyRow
import Derived.Laws.Cover3
import Derived.Lib.AppendZeros
import Derived.Maps.OwnSet
import Derived.Test.YtpohjepbmgeplaaGreatDoorProg
import Derived.Shelf.Spec.BitsCarry
import Derived.Shelf.Small.Bits
import Derived.Shelf.Small.Wraps
import Derived.Shelf.Strconv.Itoa0
import Derived.Shelf.Bits.Mul64
import Derived.Shelf.Slices.Turned
import Derived.Ground.Names2Prog
import Derived.Shelf.Slices.SearchI
import Derived.Shelf.Slices.Empties
/- A range over a function: the loop's rule, what is asked of the iterator, and a yield. -/
namespace Go.Proofs.K
open Go.RowKit Go.Shelf
variable {P : Program} {n : NN} {Q : Exit → Fr → World → Prop} {f : Fr} {w : World} {ops : Array Oper} {rest : List Oper}

/-- a step of the loop's book-keeping, at or beyond B -/
def Book (B : Nat) (w w' : World) : Prop := ∃ row, w.grownBy w' row ∧ ∀ r, row = some r → B ≤ r ∧ ∃ o : Obj, w.heap[r]? = some o ∧ o.isCells = false
theorem Book.put {B l : Nat} {w : World} {o : Obj} (o' : Obj) (hl : B ≤ l) (h : w.heap[l]? = some o) (hc : o.isCells = false) : Book B w (w.putObj l o') :=
  ⟨some l, grownBy_putObj' w l o', fun r e => by cases e; exact ⟨hl, o, h, hc⟩⟩
theorem Book.alloc {B : Nat} (w : World) (o : Obj) : Book B w (w.alloc o) := ⟨none, World.grownBy_alloc w o none, fun r e => by cases e⟩
def yieldV (l : Nat) : Value := .func (.yield l) #[] #[]
/-- what an iterator is asked: it yields in the states 0, 1, ..; it ends where Fin holds, or a yield has said no -/
def Iter (P : Program) (gf : FuncId) (lb : Array Value) (w : World) (Pre : Nat → Value → World → Prop) (Kp It Ix : World → World → Prop) (Fin : Nat → World → Prop) : Prop :=
  ∀ (l : Nat) (J : Nat → World → Prop) (Jx : World → Prop) (w1 : World), Ext w w1 →
    (∀ i a b, J i a → It a b → J i b) → (∀ a b, Jx a → Ix a b → Jx b) →
    (∀ i v a, J i a → Pre i v a → YieldAt Fence.wide 8 P l #[v] a fun e b => (e = .returned (.bool true) ∧ J (i + 1) b ∧ Kp a b) ∨ (e = .returned (.bool false) ∧ Jx b)) →
    J 0 w1 → Calls P gf (#[yieldV l] ++ lb) w1 fun e b => (∃ v, e = .returned v) ∧ ((∃ i, Fin i b ∧ J i b) ∨ Jx b)
/-- how a round is left -/
def roundQ (id B : Nat) (N S : World → Prop) (w : World) : Exit → Fr → World → Prop
  | .normal, _, w' => KeepsFrom B w w' ∧ N w'
  | .exit id', _, w' => id' = id ∧ KeepsFrom B w w' ∧ S w'
  | _, _, _ => False

theorem room_none {F : Fence} (h : F.depth = none) (m : Nat) : F.room m := by simp [Fence.room, h]
theorem wpIn_any {F : Fence} (h : F.depth = none) {c : Code} {Q' : Exit → Act → World → Prop} {a : Act} {m m' : Nat} (hw : c.wpIn F m P Q' a w) : c.wpIn F m' P Q' a w := fun b k cs hro hb _ => hw b k cs hro hb (room_none h _)
theorem n9 {f : FuncId} {args : Array Value} {R : Ending → World → Prop} {m : Nat} : (Calls P f args w R → CallsIn (NN.fen ⟨0, [], none⟩) m P f args w R) ∧ True := ⟨fun h => NN.calls ⟨0, [], none⟩ m h, trivial⟩
/-- a statement and the rest of a function's body -/
def TB (P : Program) (n : NN) (fn : Func) (R : Ending → World → Prop) (b d : Code) (f : Fr) (w : World) : Prop := b.wpIn n.fen 9 P (Exit.then (d.wpIn n.fen 9 P (bodyPostM n.fen 9 P fn R)) (bodyPostM n.fen 9 P fn R)) (act n f) w
theorem T_seq2 {fn : Func} {R : Ending → World → Prop} {a b d : Code} (h : W P n a (thenQ (TB P n fn R b d) (endQ P n fn R)) f w) : T P n fn R (.seq (.seq a b) d) f w := by
  refine wpIn_seq (wpIn_seq (wpIn_mono h ?_))
  rintro e a w ⟨f, rfl, hq⟩
  cases e with
  | normal => exact hq
  | ret => exact endQ_post .ret _ _ ⟨f, rfl, hq⟩
  | panic ch => exact hq.elim
  | outgrown => exact hq
  | exit id => exact hq.elim
  | goto l => exact hq.elim
theorem T_range {k id : Nat} {fn : Func} {R : Ending → World → Prop} {g : Operand} {p : Tmp} {assign body d : Code} {gf : FuncId} {lb : Array Value}
    (hg : ev ⟨k, [], none⟩ f g = .func (.func gf) #[] lb) (he : Enters P gf)
    {Pre : Nat → Value → World → Prop} {Kp It Ix : World → World → Prop} {Fin : Nat → World → Prop} (hit : Iter P gf lb w Pre Kp It Ix Fin)
    (hKt : ∀ a b c, Kp a b → Kp b c → Kp a c) (hKb : ∀ a l o o', w.heap.size ≤ l → a.heap[l]? = some o → o.isCells = false → Kp a (a.putObj l o'))
    (hIt : ∀ a b, It a b → KeepsFrom w.heap.size a b) (hIx : ∀ a b, Ix a b → KeepsFrom w.heap.size a b)
    (Inv : Nat → World → Prop) (Stop : World → Prop) (hI : ∀ i a b, Inv i a → It a b → Inv i b) (hIb : ∀ i a b, Inv i a → Book w.heap.size a b → Inv i b)
    (hS : ∀ a b, Stop a → Ix a b → Stop b) (hSb : ∀ a b, Stop a → Book w.heap.size a b → Stop b) (hPb : ∀ i v a b, Pre i v a → Book w.heap.size a b → Pre i v b) (hFb : ∀ i a b, Fin i a → Book w.heap.size a b → Fin i b)
    (h0 : Inv 0 w) (gv : Fr → Value → Fr)
    (hassign : ∀ l v a, W P ⟨k, [], some l⟩ assign (fun e f' b => e = .normal ∧ f' = gv f v ∧ b = a) (upd f p v) a)
    (hbody : ∀ l i v a, Inv i a → Pre i v a → W P ⟨k, [], some l⟩ body (roundQ id w.heap.size (fun b => Kp a b ∧ Inv (i + 1) b) Stop a) (gv f v) a)
    (hdone : ∀ D b, w.heap.size ≤ D → ((∃ i, Fin i b ∧ Inv i b) ∨ Stop b) → b.heap[D]? = some (.deferred (some [])) → T P ⟨k, [{ target := .collected D, args := #[] }], none⟩ fn R d f b) :
    TB P ⟨k, [], none⟩ fn R (.block id (.rangeFunc g #[p] assign body)) d f w := by
  refine wpIn_block (wpIn_rangeFunc fun fn' hfn => ?_)
  obtain ⟨rec, hrec⟩ : ∃ rec : LoopState → Option Code → Loop, rec = fun st pe => { state := st, pending := pe, fn := fn', tmps := arr ⟨k, [], none⟩ f, params := #[p], assign, body, defers := w.heap.size } := ⟨_, rfl⟩
  obtain ⟨wl, hwl⟩ : ∃ wl, (w.alloc (.deferred (some []))).alloc (.loop (rec .ready none)) = wl := ⟨_, rfl⟩
  have hL1 : wl.heap[w.heap.size + 1]? = some (.loop (rec .ready none)) := by
    rw [← hwl]; have := World.alloc_heap_new (w.alloc (.deferred (some []))) (.loop (rec .ready none)); rwa [World.size_alloc] at this
  have hK1 : wl.heap[w.heap.size]? = some (.deferred (some [])) := by
    rw [← hwl]; exact (Below.heap_alloc _ _ _ (by simp)).trans (World.alloc_heap_new w _)
  have hE1 : Ext w wl := by rw [← hwl]; exact (grown_alloc w _).trans (grown_alloc _ _)
  have hI1 : Inv 0 wl := by rw [← hwl]; exact hIb _ _ _ (hIb _ _ _ h0 (Book.alloc _ _)) (Book.alloc _ _)
  refine ⟨w.heap.size + 1, [{ target := .collected w.heap.size, args := #[] }], wl, { target := .fn (.func gf) lb, args := #[yieldV (w.heap.size + 1)] }, wl, gf, #[yieldV (w.heap.size + 1)] ++ lb, wl, ?_, ?_, ?_, ?_, fun _ => by omega, ?_⟩
  · rw [← hwl, hrec]; exact run_enterLoop_outer _ _ _ _ _
  · rw [act_eval]
    simp only [resolve, hg]
    simp [yieldV, ev, go_sem]
  · exact fun _ _ => trivial
  · exact he _ _
  · have heq : ∀ st pe, (rec st pe).fn = fn' ∧ (rec st pe).tmps = arr ⟨k, [], none⟩ f ∧ (rec st pe).params = #[p] ∧ (rec st pe).assign = assign ∧ (rec st pe).body = body ∧ (rec st pe).state = st ∧ (rec st pe).pending = pe := fun st pe => by rw [hrec]; exact ⟨rfl, rfl, rfl, rfl, rfl, rfl, rfl⟩
    have hst : ∀ st pe st', ({ rec st pe with state := st' } : Loop) = rec st' pe := fun st pe st' => by rw [hrec]
    have hst2 : ∀ st pe st' pe', ({ rec st pe with state := st', pending := pe' } : Loop) = rec st' pe' := fun st pe st' pe' => by rw [hrec]
    have hlb : w.heap.size ≤ w.heap.size + 1 := by omega
    refine n9.1 ((hit (w.heap.size + 1)
      (fun i a => Inv i a ∧ a.heap[w.heap.size + 1]? = some (.loop (rec .ready none)) ∧ a.heap[w.heap.size]? = some (.deferred (some [])))
      (fun a => Stop a ∧ a.heap[w.heap.size + 1]? = some (.loop (rec .done (some (.exit id)))) ∧ a.heap[w.heap.size]? = some (.deferred (some [])))
      wl hE1
      (fun i a b h hi => ⟨hI i a b h.1 hi, (hIt a b hi).same _ _ hlb h.2.1 rfl, (hIt a b hi).same _ _ (Nat.le_refl _) h.2.2 rfl⟩)
      (fun a b h hi => ⟨hS a b h.1 hi, (hIx a b hi).same _ _ hlb h.2.1 rfl, (hIx a b hi).same _ _ (Nat.le_refl _) h.2.2 rfl⟩)
      ?_ ⟨hI1, hL1, hK1⟩).mono ?_)
    · rintro i v a ⟨hi, hl, hk⟩ hp
      have hlt : w.heap.size + 1 < a.heap.size := (Array.getElem?_eq_some_iff.1 hl).1
      have hy := run_yield (P := P) (args := #[v]) hl (by rw [(heq _ _).2.2.1]; rfl)
      rw [(heq _ _).1, (heq _ _).2.1, (heq _ _).2.2.1, (heq _ _).2.2.2.1, (heq _ _).2.2.2.2.1] at hy
      refine ⟨fn', _, assign, body, hy, roundIn_of_wpIn hfn ?_⟩
      have htm : (#[p].zip #[v]).foldl (fun (t : Array Value) (q, a) => t.setIfInBounds q a) (arr ⟨k, [], none⟩ f) = arr ⟨k, [], some (w.heap.size + 1)⟩ (upd f p v) := by
        rw [← arr_upd]; simp; rfl
      rw [htm]
      refine wpIn_any (m := 9) rfl (wpIn_mono (hassign (w.heap.size + 1) v a) ?_)
      rintro e a1 w1 ⟨f', rfl, rfl, rfl, rfl⟩
      refine ⟨_, run_beginRound hl (heq _ _).2.2.2.2.2.1, ?_⟩
      rw [hst]
      have hbk : Book w.heap.size w1 (w1.putObj (w.heap.size + 1) (.loop (rec .busy none))) := Book.put _ hlb hl rfl
      have hl2 : (w1.putObj (w.heap.size + 1) (.loop (rec .busy none))).heap[w.heap.size + 1]? = some (.loop (rec .busy none)) := World.putObj_heap_same hlt
      have hk2 : (w1.putObj (w.heap.size + 1) (.loop (rec .busy none))).heap[w.heap.size]? = some (.deferred (some [])) := (World.putObj_heap_other (by omega)).trans hk
      have hw2 := hKb w1 (w.heap.size + 1) _ (.loop (rec .busy none)) hlb hl rfl
      refine wpIn_any (m := 9) rfl (wpIn_mono (hbody (w.heap.size + 1) i v _ (hIb _ _ _ hi hbk) (hPb _ _ _ _ hp hbk)) ?_)
      have fin : ∀ (jump : Option Code) (c : World), KeepsFrom w.heap.size (w1.putObj (w.heap.size + 1) (.loop (rec .busy none))) c →
          (Instr.endRound (w.heap.size + 1) jump).run P c = .ok (.bool jump.isNone) (c.putObj (w.heap.size + 1) (.loop (rec (if jump.isNone then .ready else .done) jump))) ∧
          c.heap[w.heap.size + 1]? = some (.loop (rec .busy none)) ∧
          (c.putObj (w.heap.size + 1) (.loop (rec (if jump.isNone then .ready else .done) jump))).heap[w.heap.size + 1]? = some (.loop (rec (if jump.isNone then .ready else .done) jump)) ∧
          (c.putObj (w.heap.size + 1) (.loop (rec (if jump.isNone then .ready else .done) jump))).heap[w.heap.size]? = some (.deferred (some [])) := fun jump c hc => by
        have hl3 := hc.same _ _ hlb hl2 rfl
        have := run_endRound (P := P) jump hl3
        rw [hst2] at this
        exact ⟨this, hl3, World.putObj_heap_same (Array.getElem?_eq_some_iff.1 hl3).1, (World.putObj_heap_other (by omega)).trans (hc.same _ _ (Nat.le_refl _) hk2 rfl)⟩
      rintro e a3 w3 ⟨f3, rfl, hq⟩
      cases e with
      | normal =>
        obtain ⟨hc, hkp, hi3⟩ := hq
        obtain ⟨hr, hl3, hl4, hk4⟩ := fin none w3 hc
        exact ⟨_, _, hr, .inl ⟨rfl, ⟨hIb _ _ _ hi3 (Book.put _ hlb hl3 rfl), hl4, hk4⟩, hKt _ _ _ (hKt _ _ _ hw2 hkp) (hKb _ _ _ _ hlb hl3 rfl)⟩⟩
      | exit id' =>
        obtain ⟨rfl, hc, hs3⟩ := hq
        obtain ⟨hr, hl3, hl4, hk4⟩ := fin (some (.exit id')) w3 hc
        exact ⟨_, _, hr, .inr ⟨rfl, hSb _ _ hs3 (Book.put _ hlb hl3 rfl), hl4, hk4⟩⟩
      | ret => exact hq.elim
      | goto t => exact hq.elim
      | panic ch => exact hq.elim
      | outgrown => exact hq.elim
    · rintro e b ⟨⟨v, rfl⟩, h⟩
      rcases h with ⟨i, hf, hi, hl, hk⟩ | ⟨hs, hl, hk⟩
      · refine ⟨none, _, by have := run_endLoop (P := P) hl (by rw [(heq _ _).2.2.2.2.2.1]; simp); rw [hst, (heq _ _).2.2.2.2.2.2] at this; exact this, ?_⟩
        have hbk : Book w.heap.size b (b.putObj (w.heap.size + 1) (.loop (rec .exhausted none))) := Book.put _ hlb hl rfl
        exact hdone w.heap.size _ (Nat.le_refl _) (.inl ⟨i, hFb _ _ _ hf hbk, hIb _ _ _ hi hbk⟩) ((World.putObj_heap_other (by omega)).trans hk)
      · refine ⟨some (.exit id), _, by have := run_endLoop (P := P) hl (by rw [(heq _ _).2.2.2.2.2.1]; simp); rw [hst, (heq _ _).2.2.2.2.2.2] at this; exact this, ?_⟩
        have hbk : Book w.heap.size b (b.putObj (w.heap.size + 1) (.loop (rec .exhausted (some (.exit id))))) := Book.put _ hlb hl rfl
        refine wpIn_exit ?_
        simp only [Exit.inBlock, if_true]
        exact hdone w.heap.size _ (Nat.le_refl _) (.inr (hSb _ _ hs hbk)) ((World.putObj_heap_other (by omega)).trans hk)
section
variable {d : Tmp} {t : TypeId} {pos : String} {af : Array Edge} {x : Operand}
theorem L_yield {l : Nat} {asl : List Operand} {vl : List Value} {tys : Array TypeId} {R : Ending → World → Prop} (hn : n.ro = none) (hx : ev n f x = yieldV l) (ha : asl.map (ev n f) = vl) (hY : YieldAt Fence.wide 8 P l vl.toArray w R)
    (h : ∀ e w', R e w' → ∃ v, e = .returned v ∧ L P n ops Q rest (upd f d v) w') : L P n ops Q (⟨some d, .call ⟨.value x, asl.toArray, tys⟩, t, pos, af, none⟩ :: rest) f w := by
  obtain ⟨fn, tm, asg, body, hy, hR⟩ := hY
  have hX : X P n ⟨some d, .call ⟨.value x, asl.toArray, tys⟩, t, pos, af, none⟩ f w = .ok (.round l fn tm asg body) w := by
    subst ha
    simp [X, execOp, resolve, hx, yieldV, Deferred.ofValue, invoke, hy]
  refine L_run rfl ?_
  unfold Run
  rw [hX]
  refine ⟨hn, hR.mono fun e w' hh => ?_⟩
  obtain ⟨v, rfl, hk⟩ := h e w' hh
  exact hk
end
section
variable {d : Option Tmp} {t ty e : TypeId} {pos : String} {af : Array Edge} {g : Option (Nat × Bool)} {x y : Operand} {k : Nat} {A : Nat → World → Prop} {Fin : List Oper → (Rho → Fr) → (Rho → Nat → World → Prop) → Prop} {E : List Ent} {gf : Rho → Fr} {H : Rho → Nat → World → Prop} {R : Nat → World → World → Prop} {gd : Option (Nat × Bool)}
theorem X_nil {a : Addr} (hx : ev n f x = .pointer (some a)) : X P n ⟨d, .nilCheck x, t, pos, af, g⟩ f w = .ok (.value (.pointer (some a))) w := by
  simp [X, execOp, hx]
theorem X_indexVI {len i : Nat} {kk ki : IntKind} [hs : TArr P ty len e] [h1 : TOne P e] {l : List Nat} (hx : ev n f x = .agg (ints kk l).toArray) (hy : ev n f y = .int ki (i : Int)) (h : i < len) (hl : l.length = len) :
    X P n ⟨d, .index ty x y, t, pos, af, g⟩ f w = .ok (.value (.int kk ((l.getD i 0 : Nat) : Int))) w := X_indexV hx hy h (ints_get (by omega))
end
section
variable {d : Tmp} {t ty ty2 e : TypeId} {pos : String} {af : Array Edge} {x y : Operand}
/-- copy into a block of the call's own -/
theorem L_copy {b o b2 o2 c c2 dl sl m : Nat} {T : TypeId} {cur cs : List Value} [ht : TSlice P ty e] [hz : TSz P e 1] (hx : ev n f x = .slice (some ⟨b, o, none⟩) dl c) (hy : ev n f y = .slice (some ⟨b2, o2, none⟩) sl c2) (hB : Blk w b T cur) (hm : m = Nat.min sl dl) (hl : cs.length = m)
    (hsrc : w.rangeAt b2 o2 cs) (hfit : o + m ≤ cur.length) (h1 : ∀ v ∈ cs, v.oneCell' = true)
    (h : ∀ w', Blk w' b T (cur.take o ++ cs ++ cur.drop (o + m)) → w.grownBy w' (some b) → w'.heap.size = w.heap.size → L P n ops Q rest (upd f d (.int .i64 (m : Nat))) w') :
    L P n ops Q (⟨some d, .call ⟨.builtin .copy, #[x, y], #[ty, ty2]⟩, t, pos, af, none⟩ :: rest) f w := by
  subst hl
  have hrun := run_copy_row (P := P) w ty ty2 t e b o dl c ⟨b2, o2, none⟩ sl c2 cur.toArray T cs ht.h hz.h hB hm (fun j v hj => by rw [Addr.add_mid]; exact hsrc j v hj) (by simpa using hfit) h1
  have hX : X P n ⟨some d, .call ⟨.builtin .copy, #[x, y], #[ty, ty2]⟩, t, pos, af, none⟩ f w = .ok (.value (.int .i64 (cs.length : Nat))) (w.setRow b (cur.take o ++ cs ++ cur.drop (o + cs.length)).toArray) := by
    simp [X, execOp, resolve, invoke, builtin, hx, hy, hrun, goInt]
  exact Ls hX (h _ (hB.setRow _) (grown_setRow _ _ _) (by simp [World.setRow]))
end
section
variable {d : Option Tmp} {t ty e : TypeId} {pos : String} {af : Array Edge} {g : Option (Nat × Bool)} {x : Operand}
/-- a[i:] and a[:j] and a[:] of an array behind a pointer -/
theorem X_arrFrom {size m : Nat} [hs : TArr P ty m e] [hz : TSz P e size] {b o : Nat} {a : Operand} {ka : IntKind} {ia : Int} (i : Nat) (hx : ev n f x = .pointer (some ⟨b, o, none⟩)) (ha : ev n f a = .int ka ia) (hi : ia = (i : Int)) (him : i < m) :
    X P n ⟨d, .slice ty x (some a) none none, t, pos, af, g⟩ f w = .ok (.value (.slice (some ⟨b, o + i * size, none⟩) (m - i) (m - i))) w := by
  subst hi
  have := X_sliceArr (P := P) (n := n) (f := f) (w := w) (d := d) (t := t) (ty := ty) (pos := pos) (af := af) (g := g) (lo := some a) (hi := none) (j := m) hx ⟨ka, ha⟩ rfl (Nat.le_of_lt him) (Nat.le_refl _)
  rwa [if_neg (by omega)] at this
theorem X_arrTo {size m : Nat} [hs : TArr P ty m e] [hz : TSz P e size] {b o : Nat} {a : Operand} {ka : IntKind} {ja : Int} (j : Nat) (hx : ev n f x = .pointer (some ⟨b, o, none⟩)) (ha : ev n f a = .int ka ja) (hj : ja = (j : Int)) (hjm : j ≤ m) (hm : 0 < m) :
    X P n ⟨d, .slice ty x none (some a) none, t, pos, af, g⟩ f w = .ok (.value (.slice (some ⟨b, o, none⟩) j m)) w := by
  subst hj
  have := X_sliceArr (P := P) (n := n) (f := f) (w := w) (d := d) (t := t) (ty := ty) (pos := pos) (af := af) (g := g) (lo := none) (hi := some a) (i := 0) hx rfl ⟨ka, ha⟩ (Nat.zero_le _) hjm
  rw [if_neg (by omega)] at this
  simpa using this
theorem X_arrAll {size m : Nat} [hs : TArr P ty m e] [hz : TSz P e size] {b o : Nat} (hx : ev n f x = .pointer (some ⟨b, o, none⟩)) (hm : 0 < m) :
    X P n ⟨d, .slice ty x none none none, t, pos, af, g⟩ f w = .ok (.value (.slice (some ⟨b, o, none⟩) m m)) w := by
  have := X_sliceArr (P := P) (n := n) (f := f) (w := w) (d := d) (t := t) (ty := ty) (pos := pos) (af := af) (g := g) (lo := none) (hi := none) (i := 0) (j := m) hx rfl rfl (Nat.zero_le _) (Nat.le_refl _)
  rw [if_neg (by omega)] at this
  simpa using this
end
section
variable {d : Option Tmp} {t ty e : TypeId} {pos : String} {af : Array Edge} {g : Option (Nat × Bool)} {x y : Operand}
theorem X_eqlNil [h : TSlice P ty e] {A : Option Addr} {m c : Nat} (hx : ev n f x = .slice A m c) (hy : ev n f y = .slice none 0 0) : X P n ⟨d, .binOp .eql ty x y ty, t, pos, af, g⟩ f w = .ok (.value (.bool A.isNone)) w := by
  have hb : (binOp .eql ty (.slice A m c) (.slice none 0 0)).run P w = .ok (.bool A.isNone) w := by
    simp only [binOp]
    simp [run_equal_slice_nil w ty e A m c h.h]
  simp only [X, execOp, hx, hy, eqGuard_at_slice]
  simp [hb, Result.andThen]
theorem X_cap [h : TSlice P ty e] {A : Option Addr} {m c : Nat} (hx : ev n f x = .slice A m c) : X P n ⟨d, .call ⟨.builtin .cap, #[x], #[ty]⟩, t, pos, af, g⟩ f w = .ok (.value (.int .i64 (c : Nat))) w := by
  simp [X, execOp, resolve, invoke, builtin, hx, Builtin.cap_, run_underlying h.h, goInt]
end

/-- every block of cells but g stays -/
structure KeepBut (g : Nat) (a b : World) : Prop where
  size : a.heap.size ≤ b.heap.size
  same : ∀ k c t fz, k ≠ g → a.heap[k]? = some (.cells c t fz) → b.heap[k]? = some (.cells c t fz)
theorem KeepBut.trans {g : Nat} {a b c : World} (h : KeepBut g a b) (k : KeepBut g b c) : KeepBut g a c := ⟨Nat.le_trans h.size k.size, fun _ _ _ _ hj hx => k.same _ _ _ _ hj (h.same _ _ _ _ hj hx)⟩
theorem KeepBut.of {g : Nat} {a b : World} {row : Option Nat} (h : a.grownBy b row) (hr : ∀ r, row = some r → r = g ∨ ∃ o : Obj, a.heap[r]? = some o ∧ o.isCells = false) : KeepBut g a b :=
  ⟨h.size, fun k c t fz hk hc => (h.block k (Array.getElem?_eq_some_iff.1 hc).1 (fun e => by
    rcases hr k e.symm with rfl | ⟨o, ho, hn⟩
    · exact hk rfl
    · rw [hc] at ho; cases ho; cases hn)).trans hc⟩
theorem Book.keep {B g : Nat} {a b : World} (h : Book B a b) : KeepBut g a b := by
  obtain ⟨row, hg, hr⟩ := h
  exact KeepBut.of hg fun r e => .inr (hr r e).2
theorem KeepBut.put {g l : Nat} {a : World} {o : Obj} (o' : Obj) (h : a.heap[l]? = some o) (hc : o.isCells = false) : KeepBut g a (a.putObj l o') :=
  KeepBut.of (grownBy_putObj' a l o') fun r e => by cases e; exact .inr ⟨o, h, hc⟩
theorem KeepBut.blk {g k : Nat} {a b : World} {T : TypeId} {cs : List Value} (h : KeepBut g a b) (B : Blk a k T cs) (hk : k ≠ g) : Blk b k T cs := h.same _ _ _ _ hk B
theorem cells_of_cell {w : World} {a : Addr} {v : Value} (h : w.cell? a = some v) : ∃ c t fz, w.heap[a.block]? = some (.cells c t fz) := by
  unfold World.cell? at h
  split at h
  · rename_i c t fz he; exact ⟨c, t, fz, he⟩
  · cases h
theorem KeepBut.cell {g : Nat} {a b : World} {p : Addr} {v : Value} (h : KeepBut g a b) (hp : p.block ≠ g) (hv : a.cell? p = some v) : b.cell? p = some v := by
  obtain ⟨c, t, fz, hc⟩ := cells_of_cell hv
  unfold World.cell? at hv ⊢
  rw [h.same _ _ _ _ hp hc]
  rw [hc] at hv
  exact hv
theorem KeepBut.row {g lo hi size m : Nat} {a b : World} {v : Value} {xs : List Value} (h : KeepBut g a b) (hr : Row a lo hi size v m xs) (hg : ¬ (lo ≤ g ∧ g < hi)) : Row b lo hi size v m xs := by
  obtain ⟨hl, A, c, he, hc, hcm, hn⟩ := hr
  refine ⟨hl, A, c, he, hc, hcm, fun h0 => ?_⟩
  obtain ⟨q, o, hA, h1, h2, h3⟩ := hn h0
  exact ⟨q, o, hA, h1, h2, fun j u hu => h.cell (fun e => hg (by simp only at e; omega)) (h3 j u hu)⟩
theorem KeepBut.own {g base size m : Nat} {a b : World} {e : TypeId} {v : Value} {xs : List Value} (h : KeepBut g a b) (ho : a.ownsRow base e size v m xs) (hg : g < base) : b.ownsRow base e size v m xs := by
  refine ⟨ho.1, ?_⟩
  rcases ho.2 with hn | ⟨q, cap, cur, hv, hb, hq, rest⟩
  · exact .inl hn
  · exact .inr ⟨q, cap, cur, hv, hb, h.same _ _ _ _ (by omega) hq, rest⟩
/-- a row lies in blocks that are there -/
theorem Row.tight {w : World} {lo hi m : Nat} {v : Value} {xs : List Value} (h : Row w lo hi 1 v m xs) : Row w lo w.heap.size 1 v m xs := by
  obtain ⟨hl, A, c, he, hc, hcm, hn⟩ := h
  refine ⟨hl, A, c, he, hc, hcm, fun h0 => ?_⟩
  obtain ⟨q, o, hA, h1, h2, h3⟩ := hn h0
  refine ⟨q, o, hA, h1, ?_, h3⟩
  have hx : ∃ u, xs[0]? = some u := ⟨xs[0]'(by omega), List.getElem?_eq_getElem (by omega)⟩
  obtain ⟨u, hu⟩ := hx
  obtain ⟨c, t, fz, hcc⟩ := cells_of_cell (h3 0 u hu)
  exact (Array.getElem?_eq_some_iff.1 hcc).1
section
variable {d : Tmp} {t ty ty2 e : TypeId} {pos : String} {af : Array Edge} {x y : Operand} {k : IntKind}
/-- append(nil, make([]T, m)...) -/
theorem L_appendZ {m : Nat} {z : Value} [ht : TSlice P ty e] [hu : TInt P ty2 k] [hz : TInfo P e 1 1 z] (hzs : z.cells.size = 1) (hx : ev n f x = .slice none 0 0) (hy : ev n f y = .int .i64 (m : Nat)) (hm0 : 0 < m) (hm : m ≤ 1000000000)
    (h : ∀ c w', Ext w w' → m ≤ c → c ≤ maxLen → (∃ xs : List Value, xs.length = m ∧ w'.ownsRow w.heap.size e 1 (.slice (some ⟨w.heap.size, 0, none⟩) m c) m xs) → L P n ops Q rest (upd f d (.slice (some ⟨w.heap.size, 0, none⟩) m c)) w') :
    L P n ops Q (⟨some d, .call ⟨.builtin .append, #[x, y], #[ty, ty2]⟩, t, pos, af, none⟩ :: rest) f w := by
  obtain ⟨i, hi', h0, h2, h3⟩ := info_parts hz.h
  have hrun := Lib.run_append_nil_zeros (P := P) w ty ty2 t e i z .i64 k ht.h hu.h hi' h0 m hm0 (by omega) (by omega) (by rw [h3]; omega)
  have hge := grownCap_ge w m 0 e
  have hcm := grownCap_le_maxLen w m 0 e (by unfold maxLen; omega)
  refine Ls (X_of_run hx hy hrun) (h _ _ ⟨rfl, rfl, rfl, by simp, fun j hj _ => heap_alloc_old w.drew _ hj⟩ hge hcm ⟨(Builtin.zeroCells z.cells m).toList, by simp [size_zeroCells, hzs], by simp [size_zeroCells, hzs], .inr ⟨w.heap.size, _, _, rfl, Nat.le_refl _, heap_alloc_new w.drew _, hge, hcm, ?_, ?_⟩⟩)
  · simp only [Array.size_append, size_zeroCells, hzs]
    omega
  · rw [Array.toList_append, List.take_left' (by simp [size_zeroCells, hzs])]
end
/-! cells that are known, in a block of which no more is said (a package-level variable) -/
def Rng (w : World) (k : Nat) (cs : List Value) : Prop := w.rangeAt k 0 cs
theorem Rng.ext {w w' : World} {k : Nat} {cs : List Value} (h : Rng w k cs) (E : Ext w w') : Rng w' k cs := E.range h
theorem Rng.grown {w w' : World} {row : Option Nat} {k : Nat} {cs : List Value} (h : Rng w k cs) (hg : w.grownBy w' row) (hr : row ≠ some k) : Rng w' k cs := fun j v hv => World.grownBy.cell hg (h j v hv) (fun e => hr e.symm)
theorem Rng.cell {w : World} {k j : Nat} {cs : List Value} {v : Value} (h : Rng w k cs) (hv : cs[j]? = some v) : w.cell? ⟨k, j, none⟩ = some v := by have := h j v hv; rwa [Nat.zero_add] at this
theorem Rng.lt {w : World} {k : Nat} {cs : List Value} (h : Rng w k cs) (h0 : 0 < cs.length) : k < w.heap.size := World.block_lt_of_cell? w _ (h.cell (List.getElem?_eq_getElem h0))
section
variable {d : Option Tmp} {t ty : TypeId} {pos : String} {af : Array Edge} {g : Option (Nat × Bool)} {x : Operand} {k : IntKind}
theorem X_ldIg [TOne P ty] {b o : Nat} {l : List Nat} (hx : ev n f x = .pointer (some ⟨b, o, none⟩)) (hB : Rng w b (ints k l)) (hv : o < l.length) : X P n ⟨d, .load ty x, t, pos, af, g⟩ f w = .ok (.value (.int k ((l.getD o 0 : Nat) : Int))) w :=
  X_load1 hx (hB.cell (ints_get hv))
theorem X_ldWg {size : Nat} [hs : TAgg P ty size] {b : Nat} {cs : List Value} (hx : ev n f x = .pointer (some ⟨b, 0, none⟩)) (hB : Rng w b cs) (hl : cs.length = size) : X P n ⟨d, .load ty x, t, pos, af, g⟩ f w = .ok (.value (.agg cs.toArray)) w :=
  X_loadA hx hB hl
end
end Go.Proofs.K

/- Literals of slices inside a region that draws. -/
namespace Go.Proofs.K
open Go.RowKit
variable {P : Program} {n : NN} {f : Fr} {w : World} {ops : Array Oper} {rest : List Oper}
section
variable {A : Nat → World → Prop} {Fin : List Oper → (Rho → Fr) → (Rho → Nat → World → Prop) → Prop} {k : Nat} {E : List Ent} {g : Rho → Fr} {H : Rho → Nat → World → Prop} {d : Tmp} {t ty e : TypeId} {pos : String} {af : Array Edge} {w0 : World} {x y : Operand}
theorem RowF.lit (w : World) (e : TypeId) (cs : List Value) (h0 : w0.heap.size ≤ w.heap.size) (m : Nat) (hm : cs.length = m) (hk : m ≤ maxLen) : RowF w0 1 (.slice (some ⟨w.heap.size, 0, none⟩) m m) m cs (w.alloc (.cells cs.toArray e)) :=
  ⟨_, _, h0, Row.lit w e 1 m cs (by omega) hk⟩
theorem DW_lit1 {z0 : Value} [TSlice P ty e] [TZero P e [z0]] (a : Rho → Value) (hx : ∀ r, ev n (g r) x = a r)
    (h1 : ∀ r w, A k w → (∀ j, td ops k j = true → H r j w) → (a r).oneCell' = true) (hA0 : ∀ w, A k w → w0.heap.size ≤ w.heap.size) (ha : ∀ r v, a (rset r k v) = a r)
    (hr : DW ExtN P n ops A Fin rest (k + 1) E (fun r => upd (g r) d (r k)) (fun r j w => bif Nat.beq j k then RowF w0 1 (r k) 1 [a r] w else H r j w)) :
    DW ExtN P n ops A Fin (⟨some d, .buildSlice ty 1 #[(0, x)], t, pos, af, none⟩ :: rest) k (.op (fun r w => RowF w0 1 (r k) 1 [a r] w) :: E) g H :=
  DW_d (F := fun r u w => RowF w0 1 u 1 [a r] w) (fun r w hA hH => ⟨_, _, X_lit1 (hx r) (h1 r w hA hH), grown_alloc _ _, RowF.lit w e _ (hA0 w hA) 1 rfl (by unfold maxLen; omega)⟩)
    (fun _ r u w w' _ _ E h => RowF.ext E h) (fun r u => by simp only [ha]) hr
/-- a variable made inside a region that draws -/
def NewF (w0 : World) (ty : TypeId) (z : List Value) (u : Value) (w : World) : Prop := ∃ q, u = .pointer (some ⟨q, 0, none⟩) ∧ w0.heap.size ≤ q ∧ Blk w q ty z
theorem NewF.ext {z : List Value} {u : Value} {w w' : World} (E : Ext w w') (h : NewF w0 ty z u w) : NewF w0 ty z u w' := by
  obtain ⟨q, h1, h2, h3⟩ := h; exact ⟨q, h1, h2, h3.ext E⟩
theorem DW_alloc {z : List Value} [hz : TZero P ty z] (hA0 : ∀ w, A k w → w0.heap.size ≤ w.heap.size)
    (hr : DW ExtN P n ops A Fin rest (k + 1) E (fun r => upd (g r) d (r k)) (fun r j w => bif Nat.beq j k then NewF w0 ty z (r k) w else H r j w)) :
    DW ExtN P n ops A Fin (⟨some d, .alloc ty, t, pos, af, none⟩ :: rest) k (.op (fun r w => NewF w0 ty z (r k) w) :: E) g H :=
  DW_d (F := fun _ u w => NewF w0 ty z u w) (fun r w hA hH => by
    obtain ⟨v, hv, hc⟩ := hz.h
    cases hq : P.info? ty with
    | none => simp [hq] at hv
    | some i =>
      have h0 : i.zero = some v := by simpa [hq] using hv
      haveI : TInfo P ty i.size i.bytes v := ⟨by simp [hq, h0]⟩
      exact ⟨_, _, X_alloc, grown_alloc _ _, w.heap.size, rfl, hA0 w hA, by rw [hc]; exact Blk.new _ _ _⟩)
    (fun _ _ u w w' _ _ E h => NewF.ext E h) (fun _ _ => rfl) hr
end
section
variable {d : Option Tmp} {t ty ty' : TypeId} {pos : String} {af : Array Edge} {g : Option (Nat × Bool)} {x y : Operand}
end
end Go.Proofs.K

/- An append keeps what other slices of the same block own. -/
namespace Go.Proofs.K
open Go.RowKit
variable {P : Program} {n : NN} {Q : Exit → Fr → World → Prop} {f : Fr} {w : World} {ops : Array Oper} {rest : List Oper}

section
variable {d : Tmp} {t ty e : TypeId} {pos : String} {af : Array Edge} {x y : Operand}
end
theorem own_other {w w' : World} {base e size m : Nat} {v : Value} {xs : List Value} {row : Option Nat} (h : w.ownsRow base e size v m xs) (hg : w.grownBy w' row) (hr : ∀ g, v.ownBlock = some g → row ≠ some g) : w'.ownsRow base e size v m xs := by
  refine ⟨h.1, ?_⟩
  rcases h.2 with hn | ⟨g, cap, cur, hv, hb, hc, rest⟩
  · exact .inl hn
  · have hlt : g < w.heap.size := (Array.getElem?_eq_some_iff.1 hc).1
    exact .inr ⟨g, cap, cur, hv, hb, (hg.block g hlt (fun e => hr g (by rw [hv]; rfl) e.symm)).trans hc, rest⟩
/-! a region that draws, one of whose operations (k0) appends to a row of the function's own -/
section
variable {R : Nat → World → World → Prop} {A : Nat → World → Prop} {Fin : List Oper → (Rho → Fr) → (Rho → Nat → World → Prop) → Prop} {k : Nat} {E : List Ent} {g : Rho → Fr} {H : Rho → Nat → World → Prop} {d : Tmp} {t : TypeId} {pos : String} {af : Array Edge}
/-- a call whose result is described, in a region of any relation -/
theorem DW_fr {F : Value → World → Prop} {id : FuncId} [TFun P id] {l : List Operand} {vl : Rho → List Value} {tys : Array TypeId} (ha : ∀ r, l.map (ev n (g r)) = vl r)
    (hc : ∀ r w, A k w → (∀ j, td ops k j = true → H r j w) → Calls P id (vl r).toArray w fun e w' => ∃ v, e = .returned v ∧ R k w w' ∧ F v w') (hF : ∀ i v w w', i ≠ k → td ops k i = false → R i w w' → F v w → F v w')
    (hr : DW R P n ops A Fin rest (k + 1) E (fun r => upd (g r) d (r k)) (fun r j w => bif Nat.beq j k then F (r k) w else H r j w)) : DW R P n ops A Fin (⟨some d, .call ⟨.value (.func id), l.toArray, tys⟩, t, pos, af, none⟩ :: rest) k (.op (fun r w => F (r k) w) :: E) g H :=
  .op (fun r w hA hH => ⟨wants_none rfl, Run_call (X_fn (ha r)) (hc r w hA hH) fun e w' ⟨v, he, hE, hv⟩ => ⟨v, he, hE, by rw [rset_self]; exact hv⟩⟩) (fun i r w w' h1 h2 hE h => hF i _ _ _ h1 h2 hE h) hr
end
end Go.Proofs.K

/- Sets of ints (map[int]struct), and stores to a variable that a region that draws has made. -/
namespace Go.Proofs.K
open Go.RowKit Go.Maps Go.MapKept
variable {P : Program} {n : NN} {Q : Exit → Fr → World → Prop} {f : Fr} {w : World} {ops : Array Oper} {rest : List Oper}

section
variable {d : Tmp} {t ty kt e : TypeId} {pos : String} {af : Array Edge} {x y z : Operand}
end
/-! a region that draws, one of whose operations (k0) stores to a variable that the region itself has made -/
def RN (k0 : Nat) (w0 : World) (T : TypeId) (z l : List Value) : Nat → World → World → Prop := fun i a b => Ext a b ∨ (i = k0 ∧ ∃ q, w0.heap.size ≤ q ∧ (Blk a q T z ∨ Blk a q T l) ∧ a.grownBy b (some q) ∧ Blk b q T l)
section
variable {k0 : Nat} {w0 : World} {T : TypeId} {z l : List Value}
instance : ExtR (RN k0 w0 T z l) := ⟨fun _ _ _ h => .inl h⟩
theorem RN.refl (i : Nat) (w : World) : RN k0 w0 T z l i w w := .inl (Ext.refl w)
theorem RN.other {i : Nat} {a b : World} (h : RN k0 w0 T z l i a b) (hi : i ≠ k0) : Ext a b := h.elim id fun h => absurd h.1 hi
theorem RN.step : ∀ i a b, RN k0 w0 T z l i a b → Ext w0 a → Ext w0 b := fun _ _ _ h E => h.elim (fun e => E.trans e) fun ⟨_, q, hq, _, hg, _⟩ => E.then hg (fun g hg => by cases hg; exact hq)
/-- the variable, before or behind the store -/
def NewZ (w0 : World) (T : TypeId) (z l : List Value) (u : Value) (w : World) : Prop := ∃ q, u = .pointer (some ⟨q, 0, none⟩) ∧ w0.heap.size ≤ q ∧ (Blk w q T z ∨ Blk w q T l)
theorem NewZ.step {i : Nat} {u : Value} {a b : World} (h : RN k0 w0 T z l i a b) (hn : NewZ w0 T z l u a) : NewZ w0 T z l u b := by
  obtain ⟨q, h1, h2, h3⟩ := hn
  refine ⟨q, h1, h2, ?_⟩
  rcases h with e | ⟨_, q', hq, hz, hg, hb⟩
  · exact h3.imp (fun B => B.ext e) (fun B => B.ext e)
  · by_cases hqq : q = q'
    · subst hqq; exact .inr hb
    · exact h3.imp (fun B => B.grown hg (fun e => hqq (by injection e with e; exact e.symm))) (fun B => B.grown hg (fun e => hqq (by injection e with e; exact e.symm)))
variable {Fin : List Oper → (Rho → Fr) → (Rho → Nat → World → Prop) → Prop} {k : Nat} {E : List Ent} {g : Rho → Fr} {H : Rho → Nat → World → Prop} {d : Tmp} {t ty : TypeId} {pos : String} {af : Array Edge} {x y : Operand}
theorem alloc_new {w : World} {z' : List Value} [hz : TZero P ty z'] {f : Fr} (h0 : w0.heap.size ≤ w.heap.size) : ∃ v w', X P n ⟨some d, .alloc ty, t, pos, af, none⟩ f w = .ok (.value v) w' ∧ Ext w w' ∧ NewF w0 ty z' v w' := by
  obtain ⟨v, hv, hc⟩ := hz.h
  cases hq : P.info? ty with
  | none => simp [hq] at hv
  | some i =>
    have h0' : i.zero = some v := by simpa [hq] using hv
    haveI : TInfo P ty i.size i.bytes v := ⟨by simp [hq, h0']⟩
    exact ⟨_, _, X_alloc, grown_alloc _ _, w.heap.size, rfl, h0, by rw [hc]; exact Blk.new _ _ _⟩
theorem DW_allocZ [hz : TZero P T z]
    (hr : DW (RN k0 w0 T z l) P n ops (fun _ => Ext w0) Fin rest (k + 1) E (fun r => upd (g r) d (r k)) (fun r j w => bif Nat.beq j k then NewZ w0 T z l (r k) w else H r j w)) :
    DW (RN k0 w0 T z l) P n ops (fun _ => Ext w0) Fin (⟨some d, .alloc T, t, pos, af, none⟩ :: rest) k (.op (fun r w => NewZ w0 T z l (r k) w) :: E) g H :=
  DW_d (F := fun _ u w => NewZ w0 T z l u w) (fun r w hA hH => by
    obtain ⟨v, w', h1, h2, q, h3, h4, h5⟩ := alloc_new (P := P) (n := n) (d := d) (t := t) (pos := pos) (af := af) (ty := T) (z' := z) (f := g r) hA.size
    exact ⟨v, w', h1, h2, q, h3, h4, .inl h5⟩)
    (fun _ _ u w w' _ _ E h => NewZ.step E h) (fun _ _ => rfl) hr
theorem DW_storeN {size kx : Nat} [TAgg P ty size] (hx : ∀ r, ev n (g r) x = r kx) (hy : ∀ r, ev n (g r) y = .agg l.toArray) (hzl : z.length = size) (hl : l.length = size) (h1 : ∀ v ∈ l, v.oneCell' = true) (hkx : kx ≠ k0)
    (hz : ∀ r w, Ext w0 w → (∀ j, td ops k0 j = true → H r j w) → NewZ w0 T z l (r kx) w)
    (hr : DW (RN k0 w0 T z l) P n ops (fun _ => Ext w0) Fin rest (k0 + 1) E g (fun r j w => bif Nat.beq j k0 then (∃ q, r kx = .pointer (some ⟨q, 0, none⟩) ∧ w0.heap.size ≤ q ∧ Blk w q T l) else H r j w)) :
    DW (RN k0 w0 T z l) P n ops (fun _ => Ext w0) Fin (⟨none, .store ty x y, t, pos, af, none⟩ :: rest) k0 (.op (fun r w => ∃ q, r kx = .pointer (some ⟨q, 0, none⟩) ∧ w0.heap.size ≤ q ∧ Blk w q T l) :: E) g H := by
  refine .op (fun r w hA hH => ⟨rfl, ?_⟩) (fun i r w w' hi _ hE ⟨q, h1, h2, h3⟩ => ⟨q, h1, h2, h3.ext (hE.other hi)⟩) hr
  obtain ⟨q, e, hq, hB⟩ := hz r w hA hH
  have key : ∀ c : List Value, c.length = size → Blk w q T c → (Blk w q T z ∨ Blk w q T l) → Run P n ⟨none, .store ty x y, t, pos, af, none⟩ (g r) w fun v w' => RN k0 w0 T z l k0 w w' ∧ ∃ q, rset r k0 v kx = .pointer (some ⟨q, 0, none⟩) ∧ w0.heap.size ≤ q ∧ Blk w' q T l := by
    intro c hc B hB
    have hX := X_storeA (P := P) (n := n) (f := g r) (w := w) (d := none) (t := t) (pos := pos) (af := af) (g := none) (ty := ty) ((hx r).trans e) (hy r) hl h1 B (o := 0) (by omega)
    have hcs : c.take 0 ++ l ++ c.drop (0 + size) = l := by rw [List.drop_eq_nil_of_le (by omega)]; simp
    rw [hcs] at hX
    have B' := B.setRow l
    exact Run_skip hX ⟨.inr ⟨rfl, q, hq, hB, grown_setRow _ _ _, B'⟩, q, by rw [rset_other _ _ hkx]; exact e, hq, B'⟩
  exact hB.elim (fun B => key z hzl B (.inl B)) (fun B => key l hl B (.inr B))
end
end Go.Proofs.K

/- Guards struck, strings compared, structs compared by '!='. -/
namespace Go.Proofs.K
open Go.RowKit
variable {P : Program} {n : NN} {Q : Exit → Fr → World → Prop} {f : Fr} {w : World} {ops : Array Oper} {rest : List Oper}
/-- an operation whose guard says yes is as one without -/
theorem L_strip {d : Option Tmp} {op : Op} {t : TypeId} {pos : String} {af : Array Edge} {j : Nat} {want : Bool} {t' : Tmp} (hd : (ops[j]?).bind (·.dst) = some t') (hn : Nat.blt t' n.k = true) (hv : f t' = .bool want)
    (h : L P n ops Q (⟨d, op, t, pos, af, none⟩ :: rest) f w) : L P n ops Q (⟨d, op, t, pos, af, some (j, want)⟩ :: rest) f w :=
  L_on ((wants_at rfl hd hn hv).trans (by cases want <;> rfl)) (h.1 (wants_none rfl))
section
variable {d : Option Tmp} {t ty ty' : TypeId} {pos : String} {af : Array Edge} {g : Option (Nat × Bool)} {x y : Operand}
theorem X_neqK [h : TEq P ty] {D D' : Nat} {xs ys : List Value} {la lb : List Lit} (hx : ev n f x = .agg xs.toArray) (hy : ev n f y = .agg ys.toArray) (lx : xs.length = P.cellsOf ty) (ly : ys.length = P.cellsOf ty)
    (kx : P.keyLits D ty xs = some la) (ky : P.keyLits D' ty ys = some lb) {b : Bool} (hb : b = true ↔ la ≠ lb) :
    X P n ⟨d, .binOp .neq ty x y ty, t, pos, af, g⟩ f w = .ok (.value (.bool b)) w := by
  have hf : ∀ zs : List Value, zs.length = P.cellsOf ty → (Value.agg zs.toArray).formed P ty = true := by
    intro zs hz
    rcases h.s with ⟨fs, e⟩ | ⟨m, e', e⟩ <;> simp [Value.formed, e, hz]
  obtain ⟨r, hr, hiff⟩ := run_equalIn_deep 9996 4 ty h.k w D D' (.agg xs.toArray) (.agg ys.toArray) la lb (hf _ lx) (hf _ ly) (by simpa [Value.cells] using kx) (by simpa [Value.cells] using ky)
  have he : (!r) = b := by
    revert hb hiff; cases r <;> cases b <;> simp
  have hg := run_eqGuard_agg (P := P) (w := w) .neq ty x y xs.toArray ys.toArray h.g
  have hs := run_neq_struct (P := P) (w := w) ty xs.toArray ys.toArray
  rw [hr] at hs
  simp only [X, execOp, hx, hy]
  simp [hg, hs, Result.andThen, he]
end
/-! guarded operations inside a region that draws -/
section
variable {R : Nat → World → World → Prop} {A : Nat → World → Prop} {Fin : List Oper → (Rho → Fr) → (Rho → Nat → World → Prop) → Prop} {k : Nat} {E : List Ent} {g : Rho → Fr} {H : Rho → Nat → World → Prop} {d : Tmp} {op : Op} {t : TypeId} {pos : String} {af : Array Edge}
theorem DW_on2 [ExtR R] {V : Rho → Value} {j : Nat} {want : Bool} {t' : Tmp} (hd : (ops[j]?).bind (·.dst) = some t') (hn : Nat.blt t' n.k = true) (hv : ∀ r, g r t' = .bool want)
    (hX : ∀ r w, A k w → (∀ j, td ops k j = true → H r j w) → X P n ⟨some d, op, t, pos, af, none⟩ (g r) w = .ok (.value (V r)) w)
    (hr : DW R P n ops A Fin rest (k + 1) E (fun r => upd (g r) d (V r)) H) : DW R P n ops A Fin (⟨some d, op, t, pos, af, some (j, want)⟩ :: rest) k (.st V :: E) g H :=
  DW_on (fun r => (wants_at rfl hd hn (hv r)).trans (by cases want <;> rfl)) hX hr
theorem DW_off2 [ExtR R] {o : Option Tmp} {j : Nat} {want b : Bool} {t' : Tmp} (hd : (ops[j]?).bind (·.dst) = some t') (hn : Nat.blt t' n.k = true) (hv : ∀ r, g r t' = .bool b) (hb : (b == want) = false)
    (hr : DW R P n ops A Fin rest (k + 1) E (fun r => updo (g r) o undef) H) : DW R P n ops A Fin (⟨o, op, t, pos, af, some (j, want)⟩ :: rest) k (.st (fun _ => undef) :: E) g H :=
  DW_off (fun r => by rw [wants_at rfl hd hn (hv r)]; exact hb) hr
theorem DW_fn2 [ExtR R] {V : Rho → Value} {id : FuncId} [TFun P id] {l : List Operand} {vl : Rho → List Value} {tys : Array TypeId} {j : Nat} {want : Bool} {t' : Tmp} (hd : (ops[j]?).bind (·.dst) = some t') (hn : Nat.blt t' n.k = true) (hv : ∀ r, g r t' = .bool want)
    (ha : ∀ r, l.map (ev n (g r)) = vl r) (hc : ∀ r w, A k w → (∀ j, td ops k j = true → H r j w) → Calls P id (vl r).toArray w fun e w' => e = .returned (V r) ∧ Ext w w')
    (hr : DW R P n ops A Fin rest (k + 1) E (fun r => upd (g r) d (V r)) H) : DW R P n ops A Fin (⟨some d, .call ⟨.value (.func id), l.toArray, tys⟩, t, pos, af, some (j, want)⟩ :: rest) k (.st V :: E) g H :=
  DW_fn (fun r => (wants_at rfl hd hn (hv r)).trans (by cases want <;> rfl)) ha hc hr
theorem DW_fo2 [ExtR R] {F : Value → World → Prop} {id : FuncId} [TFun P id] {l : List Operand} {vl : Rho → List Value} {tys : Array TypeId} {j : Nat} {want : Bool} {t' : Tmp} (hd : (ops[j]?).bind (·.dst) = some t') (hn : Nat.blt t' n.k = true) (hv : ∀ r, g r t' = .bool want)
    (ha : ∀ r, l.map (ev n (g r)) = vl r) (hc : ∀ r w, A k w → (∀ j, td ops k j = true → H r j w) → Calls P id (vl r).toArray w fun e w' => ∃ v, e = .returned v ∧ Ext w w' ∧ F v w') (hF : ∀ i v w w', i ≠ k → td ops k i = false → R i w w' → F v w → F v w')
    (hr : DW R P n ops A Fin rest (k + 1) E (fun r => upd (g r) d (r k)) (fun r j w => bif Nat.beq j k then F (r k) w else H r j w)) : DW R P n ops A Fin (⟨some d, .call ⟨.value (.func id), l.toArray, tys⟩, t, pos, af, some (j, want)⟩ :: rest) k (.op (fun r w => F (r k) w) :: E) g H :=
  DW_fo (fun r => (wants_at rfl hd hn (hv r)).trans (by cases want <;> rfl)) ha hc hF hr
theorem d_ng {d : Option Tmp} (h : DW R P n ops A Fin (⟨d, op, t, pos, af, none⟩ :: rest) k E g H) : DW R P n ops A Fin (⟨d, op, t, pos, af, none⟩ :: rest) k E g H := h
theorem d_gd {d : Option Tmp} {gd : Nat × Bool} (h : DW R P n ops A Fin (⟨d, op, t, pos, af, some gd⟩ :: rest) k E g H) : DW R P n ops A Fin (⟨d, op, t, pos, af, some gd⟩ :: rest) k E g H := h
end
section
variable {d : Option Tmp} {t ty : TypeId} {pos : String} {af : Array Edge} {g : Option (Nat × Bool)} {x : Operand}
end
section
variable {d : Option Tmp} {t ty : TypeId} {pos : String} {af : Array Edge} {g : Option (Nat × Bool)} {x : Operand}
end
end Go.Proofs.K

/- The facts on the types and functions of this translation, by program (types.py): instances for the calculus of the K texts. -/
namespace Go.Proofs.YtpohjepbmgeplaaGreatDoor
open Go.Proofs.K
set_option maxRecDepth 100000
instance : TMixed Tryz.prog := ⟨by kernel_rfl⟩
instance : TInt Tryz.prog 2 .i64 := ⟨Tryz.underlying2⟩
theorem inf2 : (Tryz.prog.info? 2).map (fun i => (i.zero, i.size, i.bytes)) = some (some (.int .i64 0), 1, 8) := by kernel_rfl
instance : TZero Tryz.prog 2 [.int .i64 0] := zero_mk inf2 (by rfl)
instance : TSz Tryz.prog 2 1 := ⟨sz_mk inf2⟩
instance : TOne Tryz.prog 2 := ⟨⟨_, Tryz.underlying2, rfl⟩, sz_mk inf2⟩
instance : TInt Tryz.prog 3 .i64 := ⟨Tryz.underlying3⟩
theorem inf3 : (Tryz.prog.info? 3).map (fun i => (i.zero, i.size, i.bytes)) = some (some (.int .i64 0), 1, 8) := by kernel_rfl
instance : TZero Tryz.prog 3 [.int .i64 0] := zero_mk inf3 (by rfl)
instance : TSz Tryz.prog 3 1 := ⟨sz_mk inf3⟩
instance : TElem Tryz.prog 3 1 8 := ⟨_, inf3, rfl, by decide⟩
instance : TOne Tryz.prog 3 := ⟨⟨_, Tryz.underlying3, rfl⟩, sz_mk inf3⟩
theorem inf4 : (Tryz.prog.info? 4).map (fun i => (i.zero, i.size, i.bytes)) = some (some (.bool false), 1, 1) := by kernel_rfl
instance : TZero Tryz.prog 4 [.bool false] := zero_mk inf4 (by rfl)
instance : TSz Tryz.prog 4 1 := ⟨sz_mk inf4⟩
instance : TElem Tryz.prog 4 1 1 := ⟨_, inf4, rfl, by decide⟩
instance : TOne Tryz.prog 4 := ⟨⟨_, Tryz.underlying4, rfl⟩, sz_mk inf4⟩
instance : TInt Tryz.prog 5 .u8 := ⟨Tryz.underlying5⟩
theorem inf5 : (Tryz.prog.info? 5).map (fun i => (i.zero, i.size, i.bytes)) = some (some (.int .u8 0), 1, 1) := by kernel_rfl
instance : TInfo Tryz.prog 5 1 1 (.int .u8 0) := ⟨inf5⟩
instance : TZero Tryz.prog 5 [.int .u8 0] := zero_mk inf5 (by rfl)
instance : TSz Tryz.prog 5 1 := ⟨sz_mk inf5⟩
instance : TElem Tryz.prog 5 1 1 := ⟨_, inf5, rfl, by decide⟩
instance : TOne Tryz.prog 5 := ⟨⟨_, Tryz.underlying5, rfl⟩, sz_mk inf5⟩
instance : TSlice Tryz.prog 22 29 := ⟨Tryz.underlying22⟩
theorem inf22 : (Tryz.prog.info? 22).map (fun i => (i.zero, i.size, i.bytes)) = some (some (.slice none 0 0), 1, 24) := by kernel_rfl
instance : TZero Tryz.prog 22 [.slice none 0 0] := zero_mk inf22 (by rfl)
instance : TSz Tryz.prog 22 1 := ⟨sz_mk inf22⟩
instance : TElem Tryz.prog 22 1 24 := ⟨_, inf22, rfl, by decide⟩
instance : TOne Tryz.prog 22 := ⟨⟨_, Tryz.underlying22, rfl⟩, sz_mk inf22⟩
instance : TSlice Tryz.prog 23 31 := ⟨Tryz.underlying23⟩
theorem inf23 : (Tryz.prog.info? 23).map (fun i => (i.zero, i.size, i.bytes)) = some (some (.slice none 0 0), 1, 24) := by kernel_rfl
instance : TZero Tryz.prog 23 [.slice none 0 0] := zero_mk inf23 (by rfl)
instance : TOne Tryz.prog 23 := ⟨⟨_, Tryz.underlying23, rfl⟩, sz_mk inf23⟩
instance : TInt Tryz.prog 24 .u16 := ⟨Tryz.underlying24⟩
theorem inf24 : (Tryz.prog.info? 24).map (fun i => (i.zero, i.size, i.bytes)) = some (some (.int .u16 0), 1, 2) := by kernel_rfl
instance : TOne Tryz.prog 24 := ⟨⟨_, Tryz.underlying24, rfl⟩, sz_mk inf24⟩
theorem inf26 : (Tryz.prog.info? 26).map (fun i => (i.zero, i.size, i.bytes)) = some (some (.agg ([[.slice none 0 0], [.slice none 0 0], [.int .u8 0], [.int .u16 0], [.int .u16 0]].flatten).toArray), 5, 56) := by kernel_rfl
instance : TAgg Tryz.prog 26 5 := ⟨⟨_, Tryz.underlying26, rfl⟩, sz_mk inf26⟩
instance : TFld Tryz.prog 26 0 0 22 := ⟨⟨_, _, Tryz.underlying26, rfl, rfl, rfl⟩, fld_s (k := 0) (by kernel_rfl)⟩
instance : TFld Tryz.prog 26 1 1 23 := ⟨⟨_, _, Tryz.underlying26, rfl, rfl, rfl⟩, fld_s (k := 0) (by kernel_rfl)⟩
instance : TFld Tryz.prog 26 2 2 5 := ⟨⟨_, _, Tryz.underlying26, rfl, rfl, rfl⟩, fld_s (k := 0) (by kernel_rfl)⟩
instance : TFld Tryz.prog 26 3 3 24 := ⟨⟨_, _, Tryz.underlying26, rfl, rfl, rfl⟩, fld_s (k := 0) (by kernel_rfl)⟩
instance : TFld Tryz.prog 26 4 4 24 := ⟨⟨_, _, Tryz.underlying26, rfl, rfl, rfl⟩, fld_s (k := 0) (by kernel_rfl)⟩
theorem inf28 : (Tryz.prog.info? 28).map (fun i => (i.zero, i.size, i.bytes)) = some (some (.agg ([[.int .i64 0], [.int .i64 0], [.int .i64 0], [.int .i64 0]].flatten).toArray), 4, 32) := by kernel_rfl
instance : TZero Tryz.prog 28 [[.int .i64 0], [.int .i64 0], [.int .i64 0], [.int .i64 0]].flatten := zero_mk inf28 (by rfl)
instance : TAgg Tryz.prog 28 4 := ⟨⟨_, Tryz.underlying28, rfl⟩, sz_mk inf28⟩
instance : TFld Tryz.prog 28 0 0 3 := ⟨⟨_, _, Tryz.underlying28, rfl, rfl, rfl⟩, fld_s (k := 0) (by kernel_rfl)⟩
instance : TFld Tryz.prog 28 1 1 3 := ⟨⟨_, _, Tryz.underlying28, rfl, rfl, rfl⟩, fld_s (k := 0) (by kernel_rfl)⟩
instance : TFld Tryz.prog 28 2 2 3 := ⟨⟨_, _, Tryz.underlying28, rfl, rfl, rfl⟩, fld_s (k := 0) (by kernel_rfl)⟩
instance : TFld Tryz.prog 28 3 3 3 := ⟨⟨_, _, Tryz.underlying28, rfl, rfl, rfl⟩, fld_s (k := 0) (by kernel_rfl)⟩
instance : TSegs Tryz.prog 28 [[.int .i64 0], [.int .i64 0], [.int .i64 0], [.int .i64 0]] := segs_mk Tryz.underlying28 (by kernel_rfl) (by kernel_rfl)
instance : TInt Tryz.prog 29 .u64 := ⟨Tryz.underlying29⟩
theorem inf29 : (Tryz.prog.info? 29).map (fun i => (i.zero, i.size, i.bytes)) = some (some (.int .u64 0), 1, 8) := by kernel_rfl
instance : TZero Tryz.prog 29 [.int .u64 0] := zero_mk inf29 (by rfl)
instance : TSz Tryz.prog 29 1 := ⟨sz_mk inf29⟩
instance : TElem Tryz.prog 29 1 8 := ⟨_, inf29, rfl, by decide⟩
instance : TOne Tryz.prog 29 := ⟨⟨_, Tryz.underlying29, rfl⟩, sz_mk inf29⟩
theorem inf31 : (Tryz.prog.info? 31).map (fun i => (i.zero, i.size, i.bytes)) = some (some (.agg ([[.int .u64 0], [.int .u64 0]].flatten).toArray), 2, 16) := by kernel_rfl
instance : TZero Tryz.prog 31 [[.int .u64 0], [.int .u64 0]].flatten := zero_mk inf31 (by rfl)
instance : TSz Tryz.prog 31 2 := ⟨sz_mk inf31⟩
instance : TElem Tryz.prog 31 2 16 := ⟨_, inf31, rfl, by decide⟩
instance : TAgg Tryz.prog 31 2 := ⟨⟨_, Tryz.underlying31, rfl⟩, sz_mk inf31⟩
instance : TFld Tryz.prog 31 0 0 29 := ⟨⟨_, _, Tryz.underlying31, rfl, rfl, rfl⟩, fld_s (k := 0) (by kernel_rfl)⟩
instance : TFld Tryz.prog 31 1 1 29 := ⟨⟨_, _, Tryz.underlying31, rfl, rfl, rfl⟩, fld_s (k := 0) (by kernel_rfl)⟩
instance : TSegs Tryz.prog 31 [[.int .u64 0], [.int .u64 0]] := segs_mk Tryz.underlying31 (by kernel_rfl) (by kernel_rfl)
instance : TSlice Tryz.prog 32 3 := ⟨Tryz.underlying32⟩
theorem inf32 : (Tryz.prog.info? 32).map (fun i => (i.zero, i.size, i.bytes)) = some (some (.slice none 0 0), 1, 24) := by kernel_rfl
instance : TOne Tryz.prog 32 := ⟨⟨_, Tryz.underlying32, rfl⟩, sz_mk inf32⟩
theorem inf34 : (Tryz.prog.info? 34).map (fun i => (i.zero, i.size, i.bytes)) = some (some (.agg ([[.slice none 0 0], ([.int .u64 0] ++ [.int .u64 0]), [.slice none 0 0]].flatten).toArray), 4, 64) := by kernel_rfl
instance : TZero Tryz.prog 34 [[.slice none 0 0], ([.int .u64 0] ++ [.int .u64 0]), [.slice none 0 0]].flatten := zero_mk inf34 (by rfl)
instance : TAgg Tryz.prog 34 4 := ⟨⟨_, Tryz.underlying34, rfl⟩, sz_mk inf34⟩
instance : TFld Tryz.prog 34 0 0 23 := ⟨⟨_, _, Tryz.underlying34, rfl, rfl, rfl⟩, fld_s (k := 0) (by kernel_rfl)⟩
instance : TFld Tryz.prog 34 1 1 31 := ⟨⟨_, _, Tryz.underlying34, rfl, rfl, rfl⟩, fld_s (k := 1) (by kernel_rfl)⟩
instance : TFld Tryz.prog 34 2 3 32 := ⟨⟨_, _, Tryz.underlying34, rfl, rfl, rfl⟩, fld_s (k := 0) (by kernel_rfl)⟩
instance : TSegs Tryz.prog 34 [[.slice none 0 0], ([.int .u64 0] ++ [.int .u64 0]), [.slice none 0 0]] := segs_mk Tryz.underlying34 (by kernel_rfl) (by kernel_rfl)
instance : TSlice Tryz.prog 38 22 := ⟨Tryz.underlying38⟩
theorem inf38 : (Tryz.prog.info? 38).map (fun i => (i.zero, i.size, i.bytes)) = some (some (.slice none 0 0), 1, 24) := by kernel_rfl
instance : TOne Tryz.prog 38 := ⟨⟨_, Tryz.underlying38, rfl⟩, sz_mk inf38⟩
instance : TArr Tryz.prog 43 32 5 := ⟨Tryz.underlying43⟩
theorem inf43 : (Tryz.prog.info? 43).map (fun i => (i.zero, i.size, i.bytes)) = some (some (.agg ((List.replicate 32 [.int .u8 0]).flatten).toArray), 32, 32) := by kernel_rfl
instance : TZero Tryz.prog 43 (List.replicate 32 [.int .u8 0]).flatten := zero_mk inf43 (by rfl)
instance : TSz Tryz.prog 43 32 := ⟨sz_mk inf43⟩
instance : TElem Tryz.prog 43 32 32 := ⟨_, inf43, rfl, by decide⟩
instance : TAgg Tryz.prog 43 32 := ⟨⟨_, Tryz.underlying43, rfl⟩, sz_mk inf43⟩
instance : TSlice Tryz.prog 46 43 := ⟨Tryz.underlying46⟩
theorem inf46 : (Tryz.prog.info? 46).map (fun i => (i.zero, i.size, i.bytes)) = some (some (.slice none 0 0), 1, 24) := by kernel_rfl
instance : TZero Tryz.prog 46 [.slice none 0 0] := zero_mk inf46 (by rfl)
instance : TOne Tryz.prog 46 := ⟨⟨_, Tryz.underlying46, rfl⟩, sz_mk inf46⟩
theorem inf48 : (Tryz.prog.info? 48).map (fun i => (i.zero, i.size, i.bytes)) = some (some (.agg ([[.slice none 0 0]].flatten).toArray), 1, 24) := by kernel_rfl
instance : TZero Tryz.prog 48 [[.slice none 0 0]].flatten := zero_mk inf48 (by rfl)
instance : TAgg Tryz.prog 48 1 := ⟨⟨_, Tryz.underlying48, rfl⟩, sz_mk inf48⟩
instance : TFld Tryz.prog 48 0 0 46 := ⟨⟨_, _, Tryz.underlying48, rfl, rfl, rfl⟩, fld_s (k := 0) (by kernel_rfl)⟩
theorem inf50 : (Tryz.prog.info? 50).map (fun i => (i.zero, i.size, i.bytes)) = some (some (.agg ([[.slice none 0 0], [.slice none 0 0], [.slice none 0 0], ([.slice none 0 0])].flatten).toArray), 4, 96) := by kernel_rfl
instance : TZero Tryz.prog 50 [[.slice none 0 0], [.slice none 0 0], [.slice none 0 0], ([.slice none 0 0])].flatten := zero_mk inf50 (by rfl)
instance : TAgg Tryz.prog 50 4 := ⟨⟨_, Tryz.underlying50, rfl⟩, sz_mk inf50⟩
instance : TFld Tryz.prog 50 0 0 23 := ⟨⟨_, _, Tryz.underlying50, rfl, rfl, rfl⟩, fld_s (k := 0) (by kernel_rfl)⟩
instance : TFld Tryz.prog 50 1 1 23 := ⟨⟨_, _, Tryz.underlying50, rfl, rfl, rfl⟩, fld_s (k := 0) (by kernel_rfl)⟩
instance : TFld Tryz.prog 50 2 2 38 := ⟨⟨_, _, Tryz.underlying50, rfl, rfl, rfl⟩, fld_s (k := 0) (by kernel_rfl)⟩
instance : TFld Tryz.prog 50 3 3 48 := ⟨⟨_, _, Tryz.underlying50, rfl, rfl, rfl⟩, fld_s (k := 0) (by kernel_rfl)⟩
instance : TSegs Tryz.prog 50 [[.slice none 0 0], [.slice none 0 0], [.slice none 0 0], ([.slice none 0 0])] := segs_mk Tryz.underlying50 (by kernel_rfl) (by kernel_rfl)
theorem inf61 : (Tryz.prog.info? 61).map (fun i => (i.zero, i.size, i.bytes)) = some (some (.agg ([([.slice none 0 0] ++ ([.int .u64 0] ++ [.int .u64 0]) ++ [.slice none 0 0]), [.int .i64 0], ([.int .u64 0] ++ [.int .u64 0]), ([.slice none 0 0] ++ [.slice none 0 0] ++ [.slice none 0 0] ++ ([.slice none 0 0]))].flatten).toArray), 11, 184) := by kernel_rfl
instance : TZero Tryz.prog 61 [([.slice none 0 0] ++ ([.int .u64 0] ++ [.int .u64 0]) ++ [.slice none 0 0]), [.int .i64 0], ([.int .u64 0] ++ [.int .u64 0]), ([.slice none 0 0] ++ [.slice none 0 0] ++ [.slice none 0 0] ++ ([.slice none 0 0]))].flatten := zero_mk inf61 (by rfl)
instance : TAgg Tryz.prog 61 11 := ⟨⟨_, Tryz.underlying61, rfl⟩, sz_mk inf61⟩
instance : TFld Tryz.prog 61 0 0 34 := ⟨⟨_, _, Tryz.underlying61, rfl, rfl, rfl⟩, fld_s (k := 3) (by kernel_rfl)⟩
instance : TFld Tryz.prog 61 1 4 3 := ⟨⟨_, _, Tryz.underlying61, rfl, rfl, rfl⟩, fld_s (k := 0) (by kernel_rfl)⟩
instance : TFld Tryz.prog 61 2 5 31 := ⟨⟨_, _, Tryz.underlying61, rfl, rfl, rfl⟩, fld_s (k := 1) (by kernel_rfl)⟩
instance : TFld Tryz.prog 61 3 7 50 := ⟨⟨_, _, Tryz.underlying61, rfl, rfl, rfl⟩, fld_s (k := 3) (by kernel_rfl)⟩
instance : TSegs Tryz.prog 61 [([.slice none 0 0] ++ ([.int .u64 0] ++ [.int .u64 0]) ++ [.slice none 0 0]), [.int .i64 0], ([.int .u64 0] ++ [.int .u64 0]), ([.slice none 0 0] ++ [.slice none 0 0] ++ [.slice none 0 0] ++ ([.slice none 0 0]))] := segs_mk Tryz.underlying61 (by kernel_rfl) (by kernel_rfl)
instance : TOne Tryz.prog 72 := ⟨⟨_, Tryz.underlying72, rfl⟩, by kernel_rfl⟩
instance : TOne Tryz.prog 80 := ⟨⟨_, Tryz.underlying80, rfl⟩, by kernel_rfl⟩
instance : TOne Tryz.prog 86 := ⟨⟨_, Tryz.underlying86, rfl⟩, by kernel_rfl⟩
instance : TSlice Tryz.prog 91 2 := ⟨Tryz.underlying91⟩
instance : TOne Tryz.prog 100 := ⟨⟨_, Tryz.underlying100, rfl⟩, by kernel_rfl⟩
instance : TSlice Tryz.prog 102 129 := ⟨Tryz.underlying102⟩
theorem inf102 : (Tryz.prog.info? 102).map (fun i => (i.zero, i.size, i.bytes)) = some (some (.slice none 0 0), 1, 24) := by kernel_rfl
instance : TZero Tryz.prog 102 [.slice none 0 0] := zero_mk inf102 (by rfl)
instance : TOne Tryz.prog 102 := ⟨⟨_, Tryz.underlying102, rfl⟩, sz_mk inf102⟩
instance : TOne Tryz.prog 110 := ⟨⟨_, Tryz.underlying110, rfl⟩, by kernel_rfl⟩
instance : TAgg Tryz.prog 112 2 := ⟨⟨_, Tryz.underlying112, rfl⟩, by kernel_rfl⟩
instance : TFld Tryz.prog 112 0 0 72 := ⟨⟨_, _, Tryz.underlying112, rfl, rfl, rfl⟩, fld_s (k := 0) (by kernel_rfl)⟩
instance : TFld Tryz.prog 112 1 1 110 := ⟨⟨_, _, Tryz.underlying112, rfl, rfl, rfl⟩, fld_s (k := 0) (by kernel_rfl)⟩
theorem inf128 : (Tryz.prog.info? 128).map (fun i => (i.zero, i.size, i.bytes)) = some (some (.agg ([[.slice none 0 0], [.slice none 0 0]].flatten).toArray), 2, 48) := by kernel_rfl
instance : TZero Tryz.prog 128 [[.slice none 0 0], [.slice none 0 0]].flatten := zero_mk inf128 (by rfl)
instance : TAgg Tryz.prog 128 2 := ⟨⟨_, Tryz.underlying128, rfl⟩, sz_mk inf128⟩
instance : TFld Tryz.prog 128 0 0 32 := ⟨⟨_, _, Tryz.underlying128, rfl, rfl, rfl⟩, fld_s (k := 0) (by kernel_rfl)⟩
instance : TFld Tryz.prog 128 1 1 102 := ⟨⟨_, _, Tryz.underlying128, rfl, rfl, rfl⟩, fld_s (k := 0) (by kernel_rfl)⟩
instance : TSegs Tryz.prog 128 [[.slice none 0 0], [.slice none 0 0]] := segs_mk Tryz.underlying128 (by kernel_rfl) (by kernel_rfl)
instance : TSlice Tryz.prog 129 5 := ⟨Tryz.underlying129⟩
theorem inf129 : (Tryz.prog.info? 129).map (fun i => (i.zero, i.size, i.bytes)) = some (some (.slice none 0 0), 1, 24) := by kernel_rfl
instance : TZero Tryz.prog 129 [.slice none 0 0] := zero_mk inf129 (by rfl)
instance : TSz Tryz.prog 129 1 := ⟨sz_mk inf129⟩
instance : TElem Tryz.prog 129 1 24 := ⟨_, inf129, rfl, by decide⟩
instance : TOne Tryz.prog 129 := ⟨⟨_, Tryz.underlying129, rfl⟩, sz_mk inf129⟩
instance : TInt Tryz.prog 140 .u64 := ⟨Tryz.underlying140⟩
instance : TSlice Tryz.prog 142 4 := ⟨Tryz.underlying142⟩
instance : TOne Tryz.prog 144 := ⟨⟨_, Tryz.underlying144, rfl⟩, by kernel_rfl⟩
theorem inf163 : (Tryz.prog.info? 163).map (fun i => (i.zero, i.size, i.bytes)) = some (some (.agg ([[.int .i64 0], [.int .i64 0], [.slice none 0 0]].flatten).toArray), 3, 40) := by kernel_rfl
instance : TZero Tryz.prog 163 [[.int .i64 0], [.int .i64 0], [.slice none 0 0]].flatten := zero_mk inf163 (by rfl)
instance : TAgg Tryz.prog 163 3 := ⟨⟨_, Tryz.underlying163, rfl⟩, sz_mk inf163⟩
instance : TFld Tryz.prog 163 0 0 3 := ⟨⟨_, _, Tryz.underlying163, rfl, rfl, rfl⟩, fld_s (k := 0) (by kernel_rfl)⟩
instance : TFld Tryz.prog 163 1 1 3 := ⟨⟨_, _, Tryz.underlying163, rfl, rfl, rfl⟩, fld_s (k := 0) (by kernel_rfl)⟩
instance : TFld Tryz.prog 163 2 2 32 := ⟨⟨_, _, Tryz.underlying163, rfl, rfl, rfl⟩, fld_s (k := 0) (by kernel_rfl)⟩
instance : TSegs Tryz.prog 163 [[.int .i64 0], [.int .i64 0], [.slice none 0 0]] := segs_mk Tryz.underlying163 (by kernel_rfl) (by kernel_rfl)
instance : TOne Tryz.prog 173 := ⟨⟨_, Tryz.underlying173, rfl⟩, by kernel_rfl⟩
instance : TOne Tryz.prog 175 := ⟨⟨_, Tryz.underlying175, rfl⟩, by kernel_rfl⟩
instance : TOne Tryz.prog 177 := ⟨⟨_, Tryz.underlying177, rfl⟩, by kernel_rfl⟩
instance : TInt Tryz.prog 196 .u32 := ⟨Tryz.underlying196⟩
theorem inf196 : (Tryz.prog.info? 196).map (fun i => (i.zero, i.size, i.bytes)) = some (some (.int .u32 0), 1, 4) := by kernel_rfl
instance : TSz Tryz.prog 196 1 := ⟨sz_mk inf196⟩
instance : TOne Tryz.prog 196 := ⟨⟨_, Tryz.underlying196, rfl⟩, sz_mk inf196⟩
instance : TFld Tryz.prog 198 0 0 29 := ⟨⟨_, _, Tryz.underlying198, rfl, rfl, rfl⟩, fld_s (k := 0) (by kernel_rfl)⟩
instance : TFld Tryz.prog 198 1 1 29 := ⟨⟨_, _, Tryz.underlying198, rfl, rfl, rfl⟩, fld_s (k := 0) (by kernel_rfl)⟩
theorem inf220 : (Tryz.prog.info? 220).map (fun i => (i.zero, i.size, i.bytes)) = some (some (.agg ((List.replicate 8 [.int .u32 0]).flatten).toArray), 8, 32) := by kernel_rfl
instance : TAgg Tryz.prog 220 8 := ⟨⟨_, Tryz.underlying220, rfl⟩, sz_mk inf220⟩
instance : TArr Tryz.prog 221 8 196 := ⟨Tryz.underlying221⟩
theorem inf221 : (Tryz.prog.info? 221).map (fun i => (i.zero, i.size, i.bytes)) = some (some (.agg ((List.replicate 8 [.int .u32 0]).flatten).toArray), 8, 32) := by kernel_rfl
instance : TZero Tryz.prog 221 (List.replicate 8 [.int .u32 0]).flatten := zero_mk inf221 (by rfl)
instance : TAgg Tryz.prog 221 8 := ⟨⟨_, Tryz.underlying221, rfl⟩, sz_mk inf221⟩
instance : TArr Tryz.prog 236 64 196 := ⟨Tryz.underlying236⟩
theorem inf236 : (Tryz.prog.info? 236).map (fun i => (i.zero, i.size, i.bytes)) = some (some (.agg ((List.replicate 64 [.int .u32 0]).flatten).toArray), 64, 256) := by kernel_rfl
instance : TZero Tryz.prog 236 (List.replicate 64 [.int .u32 0]).flatten := zero_mk inf236 (by rfl)
instance : TAgg Tryz.prog 236 64 := ⟨⟨_, Tryz.underlying236, rfl⟩, sz_mk inf236⟩
instance : TSlice Tryz.prog 239 196 := ⟨Tryz.underlying239⟩
instance : TArr Tryz.prog 241 64 5 := ⟨Tryz.underlying241⟩
end Go.Proofs.YtpohjepbmgeplaaGreatDoor

/- bits.Add64 and bits.Sub64: the model stands in for both. -/
namespace Go.Proofs.K
open Go.RowKit
variable {P : Program} {n : NN} {f : Fr} {w : World}
variable {d : Tmp} {t : TypeId} {pos : String} {af : Array Edge} {g : Option (Nat × Bool)}
theorem X_ext {dd : Option Tmp} {id : FuncId} {l : List Operand} {vl : List Value} {tys : Array TypeId} {v : Value} (ha : l.map (ev n f) = vl) (h : (callFunc id vl.toArray).run P w = .ok (.value v) w) :
    X P n ⟨dd, .call ⟨.value (.func id), l.toArray, tys⟩, t, pos, af, g⟩ f w = .ok (.value v) w := by
  subst ha
  simp [X, execOp, resolve, ev, Deferred.ofValue, invoke, h]
theorem add64 (x y : Nat) (w : World) : (callFunc 144 #[.int .u64 x, .int .u64 y, .int .u64 0]).run Tryz.prog w =
    .ok (.value (.tuple #[.int .u64 (((x + y) % 18446744073709551616 : Nat) : Int), .int .u64 (((x + y) / 18446744073709551616 : Nat) : Int)])) w := by
  rw [run_callFunc_extern Tryz.func144 (by kernel_rfl) (by kernel_rfl) (by kernel_rfl) (e := add64Entry) (by kernel_rfl)]
  rw [run_add64 x y 0 (by omega) (by omega) (by omega) (by omega) w]
  simp only [Result.andThen]
  congr 5 <;> omega
theorem sub64 (x y : Nat) (w : World) : (callFunc 205 #[.int .u64 x, .int .u64 y, .int .u64 0]).run Tryz.prog w =
    .ok (.value (.tuple #[.int .u64 (((x + 18446744073709551616 - y) % 18446744073709551616 : Nat) : Int), .int .u64 ((if x < y then 1 else 0 : Nat) : Int)])) w := by
  rw [run_callFunc_extern Tryz.func205 (by kernel_rfl) (by kernel_rfl) (by kernel_rfl) (e := sub64Entry) (by kernel_rfl)]
  have h := run_sub64 (P := Tryz.prog) x y 0 (by omega) w
  rw [show ((0 : Nat) : Int) = 0 from rfl] at h
  rw [h]
  rfl
end Go.Proofs.K
namespace Go.Proofs.K
section
variable {R : Nat → World → World → Prop} {P : Program} {n : NN} {Q : Exit → Fr → World → Prop} {f : Fr} {w : World} {ops : Array Oper} {A : Nat → World → Prop} {Fin : List Oper → (Rho → Fr) → (Rho → Nat → World → Prop) → Prop} {rest : List Oper} {k : Nat} {E : List Ent} {g : Rho → Fr} {H : Rho → Nat → World → Prop}
variable {d : Tmp} {t : TypeId} {pos : String} {af : Array Edge}
/-- a call of a closure whose result is known -/
theorem DW_fc [ExtR R] {V : Rho → Value} {id : FuncId} [TFun P id] {x : Operand} {l : List Operand} {vl : Rho → List Value} {tys : Array TypeId} {first cap : Array Value} (hx : ∀ r, ev n (g r) x = .func (.func id) first cap)
    (ha : ∀ r, l.map (ev n (g r)) = vl r) (hc : ∀ r w, A k w → (∀ j, td ops k j = true → H r j w) → Calls P id (first ++ (vl r).toArray ++ cap) w fun e w' => e = .returned (V r) ∧ Ext w w')
    (hr : DW R P n ops A Fin rest (k + 1) E (fun r => upd (g r) d (V r)) H) : DW R P n ops A Fin (⟨some d, .call ⟨.value x, l.toArray, tys⟩, t, pos, af, none⟩ :: rest) k (.st V :: E) g H :=
  .st (fun r w hA hH => ⟨fun _ => Run_call (X_clo (hx r) (ha r)) (hc r w hA hH) fun e w' ⟨he, hE⟩ => ⟨_, he, rfl, ExtR.h _ _ _ hE⟩, fun hw => by rw [wants_none rfl] at hw; cases hw⟩) hr
end
end Go.Proofs.K

/- Contracts of the library's functions over this program: laid by the kit's tools (lay-shelf.mjs, lay-plain.mjs). -/
namespace Go.Proofs
open Go.Shelf
def Tryz.lays125_ren : Go.Shelf.Ren := ⟨fun | 125 => 115 | 128 => 163 | 129 => 164 | n => n, fun | 46 => 140 | 3 => 3 | 51 => 196 | 53 => 29 | 4 => 4 | 5 => 5 | 9 => 9 | n => n, fun | n => n⟩
theorem Tryz.lays125 : Go.Proofs.Lays.n125 Tryz.prog Tryz.lays125_ren := {
  mixed := by kernel_rfl
  f125 := Tryz.func115.trans (congrArg some (by kernel_rfl))
  f128 := Tryz.func163.trans (congrArg some (by kernel_rfl))
  f129 := Tryz.func164.trans (congrArg some (by kernel_rfl))
  t3 := Tryz.underlying3
  a3 := Tryz.isAgg3
  z3 := Tryz.sizeOf3
  v3 := Tryz.zeroValue3
  t4 := Tryz.underlying4
  a4 := Tryz.isAgg4
  z4 := Tryz.sizeOf4
  v4 := Tryz.zeroValue4
  t5 := Tryz.underlying5
  a5 := Tryz.isAgg5
  z5 := Tryz.sizeOf5
  v5 := Tryz.zeroValue5
  t9 := Tryz.underlying9
  a9 := Tryz.isAgg9
  z9 := Tryz.sizeOf9
  v9 := Tryz.zeroValue9
  t46 := Tryz.underlying140
  a46 := Tryz.isAgg140
  z46 := Tryz.sizeOf140
  v46 := Tryz.zeroValue140
  t51 := Tryz.underlying196
  a51 := Tryz.isAgg196
  z51 := Tryz.sizeOf196
  v51 := Tryz.zeroValue196
  t53 := Tryz.underlying29
  a53 := Tryz.isAgg29
  z53 := Tryz.sizeOf29
  v53 := Tryz.zeroValue29 }
/-- bits.Len: "Len returns the minimum number of bits required to represent x; the result is 0 for x == 0.": IT RETURNS 'Lib.bitLen x'; the world is as it was. (A uint has 64 bits in the model.) ITS CALLEE bits.Len64 IS MET BY ITS OWN CONTRACT OFF THE SHELF (lay that first). (LAID: no walk: one application.) -/
theorem Tryz.bits_Len (x : Int) (w : World) (h0 : 0 ≤ x) (h1 : x ≤ 18446744073709551615) :
    Calls Tryz.prog 115 #[.int .u64 x] w fun e w' => e = .returned (.int .i64 (Lib.bitLen x.toNat)) ∧ w' = w := Any.bits_Len Tryz.lays125 x w h0 h1
def Tryz.lays264_ren : Go.Shelf.Ren := ⟨fun | 264 => 199 | n => n, fun | 53 => 29 | 46 => 140 | n => n, fun | n => n⟩
theorem Tryz.lays264 : Go.Proofs.Lays.n264 Tryz.prog Tryz.lays264_ren := {
  mixed := by kernel_rfl
  f264 := Tryz.func199.trans (congrArg some (by kernel_rfl))
  t46 := Tryz.underlying140
  a46 := Tryz.isAgg140
  z46 := Tryz.sizeOf140
  v46 := Tryz.zeroValue140
  t53 := Tryz.underlying29
  a53 := Tryz.isAgg29
  z53 := Tryz.sizeOf29
  v53 := Tryz.zeroValue29 }
open Go.RowKit Go.Lib in
theorem Tryz.bits_Mul64 (x y : Nat) (hx : x < 18446744073709551616) (hy : y < 18446744073709551616) (w : World) :
    Calls Tryz.prog 199 #[.int .u64 x, .int .u64 y] w fun e w' => e = .returned (.tuple #[.int .u64 ((x * y / 18446744073709551616 : Nat) : Int), .int .u64 ((x * y % 18446744073709551616 : Nat) : Int)]) ∧ w' = w := Any.bits_Mul64 Tryz.lays264 x y hx hy w
def Tryz.lays107_ren : Go.Shelf.Ren := ⟨fun | 107 => 71 | 108 => 127 | n => n, fun | 28 => 32 | 3 => 3 | 4 => 4 | 0 => 0 | n => n, fun | n => n⟩
theorem Tryz.lays107 : Go.Proofs.Lays.n107 Tryz.prog Tryz.lays107_ren := {
  mixed := by kernel_rfl
  f107 := Tryz.func71.trans (congrArg some (by kernel_rfl))
  f108 := Tryz.func127.trans (congrArg some (by kernel_rfl))
  t0 := Tryz.underlying0
  a0 := Tryz.isAgg0
  z0 := Tryz.sizeOf0
  v0 := Tryz.zeroValue0
  t3 := Tryz.underlying3
  a3 := Tryz.isAgg3
  z3 := Tryz.sizeOf3
  v3 := Tryz.zeroValue3
  t4 := Tryz.underlying4
  a4 := Tryz.isAgg4
  z4 := Tryz.sizeOf4
  v4 := Tryz.zeroValue4
  t28 := Tryz.underlying32
  a28 := Tryz.isAgg32
  z28 := Tryz.sizeOf32
  v28 := Tryz.zeroValue32 }
open Go.Lib in
/-- slices.Contains at []int: "Contains reports whether v is present in s.": IT RETURNS 'elements.contains v'; the world is as it was. ITS CALLEE slices.Index IS MET BY ITS OWN CONTRACT OFF THE SHELF (lay that first): no loop is walked here. (LAID: no walk: one application.) -/
theorem Tryz.slices_Contains_int (b off n c : Nat) (zs : List Int) (x : Int) (w : World) (hz : n ≤ zs.length) (hbig : n ≤ 9223372036854775807) (hc : ∀ j, j < zs.length → w.cell? ⟨b, off + j, none⟩ = some (.int .i64 (zs.getD j 0))) :
    Calls Tryz.prog 71 #[.slice (some ⟨b, off, none⟩) n c, .int .i64 x] w fun e w' => e = .returned (.bool ((zs.take n).contains x)) ∧ w' = w := Any.slices_Contains_int Tryz.lays107 b off n c zs x w hz hbig hc
def Tryz.laysNm225_ren : Go.Shelf.Ren := ⟨fun | 25 => 63 | 31 => 119 | 32 => 120 | 37 => 168 | n => n, fun | 22 => 32 | 3 => 3 | 4 => 4 | 40 => 140 | 0 => 0 | n => n, fun | n => n⟩
theorem Tryz.laysNm225 : Go.Proofs.Lays2.n25 Tryz.prog Tryz.laysNm225_ren := {
  mixed := by kernel_rfl
  f25 := Tryz.func63.trans (congrArg some (by kernel_rfl))
  f31 := Tryz.func119.trans (congrArg some (by kernel_rfl))
  f32 := Tryz.func120.trans (congrArg some (by kernel_rfl))
  f37 := Tryz.func168.trans (congrArg some (by kernel_rfl))
  t0 := Tryz.underlying0
  a0 := Tryz.isAgg0
  z0 := Tryz.sizeOf0
  v0 := Tryz.zeroValue0
  t3 := Tryz.underlying3
  a3 := Tryz.isAgg3
  z3 := Tryz.sizeOf3
  v3 := Tryz.zeroValue3
  t4 := Tryz.underlying4
  a4 := Tryz.isAgg4
  z4 := Tryz.sizeOf4
  v4 := Tryz.zeroValue4
  t22 := Tryz.underlying32
  a22 := Tryz.isAgg32
  z22 := Tryz.sizeOf32
  v22 := Tryz.zeroValue32
  t40 := Tryz.underlying140
  a40 := Tryz.isAgg140
  z40 := Tryz.sizeOf140
  v40 := Tryz.zeroValue140 }
open Go.RowKit Go.Lib in
/-- slices.BinarySearch at []int: "BinarySearch searches for target in a sorted slice and returns the earliest position where target is found, or the position where target would appear in the sort order; it also returns a bool saying whether the target is really found in the slice. The slice must be sorted in increasing order.": OF A SORTED SLICE IT RETURNS how many elements are less than the target, and whether the target is among the elements; the world is as it was but for the count of draws. 'zs': what the cells behind the slice's address hold; 'zs.take n': its elements. (Of a slice that is not sorted: no contract here.) (LAID: no walk: one application.) -/
theorem Tryz.slices_BinarySearch_int (b off n c : Nat) (zs : List Int) (x : Int) (w : World) (hz : n ≤ zs.length) (hbig : n < 4611686018427387904) (hc : ∀ j, j < zs.length → w.cell? ⟨b, off + j, none⟩ = some (.int .i64 (zs.getD j 0))) (hs : (zs.take n).Pairwise (· ≤ ·)) :
    Calls Tryz.prog 63 #[.slice (some ⟨b, off, none⟩) n c, .int .i64 x] w fun e w' => e = .returned (.tuple #[.int .i64 ((zs.take n).countP (· < x) : Nat), .bool ((zs.take n).contains x)]) ∧ ∃ q, w' = w.drewN q := Any.slices_BinarySearch_int Tryz.laysNm225 b off n c zs x w hz hbig hc hs
open Go.RowKit Go.Lib in
/-- slices.BinarySearch at []int of no element: position 0, not found; the world is as it was. (LAID: no walk: one application.) -/
theorem Tryz.slices_BinarySearch_int_empty (a : Option Addr) (c : Nat) (x : Int) (w : World) :
    Calls Tryz.prog 63 #[.slice a 0 c, .int .i64 x] w fun e w' => e = .returned (.tuple #[.int .i64 0, .bool false]) ∧ w' = w := Any.slices_BinarySearch_int_empty Tryz.laysNm225 a c x w
end Go.Proofs

/- The functions of this translation have bodies, by program (types.py). -/
namespace Go.Proofs.YtpohjepbmgeplaaGreatDoor
open Go.Proofs.K
instance : TFun Tryz.prog 10 := fun_mk Tryz.func10 (by kernel_rfl) (by kernel_rfl)
instance : TFun Tryz.prog 11 := fun_mk Tryz.func11 (by kernel_rfl) (by kernel_rfl)
instance : TFun Tryz.prog 12 := fun_mk Tryz.func12 (by kernel_rfl) (by kernel_rfl)
instance : TFun Tryz.prog 14 := fun_mk Tryz.func14 (by kernel_rfl) (by kernel_rfl)
instance : TFun Tryz.prog 16 := fun_mk Tryz.func16 (by kernel_rfl) (by kernel_rfl)
instance : TFun Tryz.prog 20 := fun_mk Tryz.func20 (by kernel_rfl) (by kernel_rfl)
instance : TFun Tryz.prog 24 := fun_mk Tryz.func24 (by kernel_rfl) (by kernel_rfl)
instance : TFun Tryz.prog 29 := fun_mk Tryz.func29 (by kernel_rfl) (by kernel_rfl)
instance : TFun Tryz.prog 30 := fun_mk Tryz.func30 (by kernel_rfl) (by kernel_rfl)
instance : TFun Tryz.prog 33 := fun_mk Tryz.func33 (by kernel_rfl) (by kernel_rfl)
instance : TFun Tryz.prog 34 := fun_mk Tryz.func34 (by kernel_rfl) (by kernel_rfl)
instance : TFun Tryz.prog 35 := fun_mk Tryz.func35 (by kernel_rfl) (by kernel_rfl)
instance : TFun Tryz.prog 36 := fun_mk Tryz.func36 (by kernel_rfl) (by kernel_rfl)
instance : TFun Tryz.prog 37 := fun_mk Tryz.func37 (by kernel_rfl) (by kernel_rfl)
instance : TFun Tryz.prog 38 := fun_mk Tryz.func38 (by kernel_rfl) (by kernel_rfl)
instance : TFun Tryz.prog 39 := fun_mk Tryz.func39 (by kernel_rfl) (by kernel_rfl)
instance : TFun Tryz.prog 40 := fun_mk Tryz.func40 (by kernel_rfl) (by kernel_rfl)
instance : TFun Tryz.prog 41 := fun_mk Tryz.func41 (by kernel_rfl) (by kernel_rfl)
instance : TFun Tryz.prog 44 := fun_mk Tryz.func44 (by kernel_rfl) (by kernel_rfl)
instance : TFun Tryz.prog 45 := fun_mk Tryz.func45 (by kernel_rfl) (by kernel_rfl)
instance : TFun Tryz.prog 46 := fun_mk Tryz.func46 (by kernel_rfl) (by kernel_rfl)
instance : TFun Tryz.prog 47 := fun_mk Tryz.func47 (by kernel_rfl) (by kernel_rfl)
instance : TFun Tryz.prog 48 := fun_mk Tryz.func48 (by kernel_rfl) (by kernel_rfl)
instance : TFun Tryz.prog 49 := fun_mk Tryz.func49 (by kernel_rfl) (by kernel_rfl)
instance : TFun Tryz.prog 50 := fun_mk Tryz.func50 (by kernel_rfl) (by kernel_rfl)
instance : TFun Tryz.prog 51 := fun_mk Tryz.func51 (by kernel_rfl) (by kernel_rfl)
instance : TFun Tryz.prog 54 := fun_mk Tryz.func54 (by kernel_rfl) (by kernel_rfl)
instance : TFun Tryz.prog 55 := fun_mk Tryz.func55 (by kernel_rfl) (by kernel_rfl)
instance : TFun Tryz.prog 58 := fun_mk Tryz.func58 (by kernel_rfl) (by kernel_rfl)
instance : TFun Tryz.prog 59 := fun_mk Tryz.func59 (by kernel_rfl) (by kernel_rfl)
instance : TFun Tryz.prog 60 := fun_mk Tryz.func60 (by kernel_rfl) (by kernel_rfl)
instance : TFun Tryz.prog 61 := fun_mk Tryz.func61 (by kernel_rfl) (by kernel_rfl)
instance : TFun Tryz.prog 62 := fun_mk Tryz.func62 (by kernel_rfl) (by kernel_rfl)
instance : TFun Tryz.prog 63 := fun_mk Tryz.func63 (by kernel_rfl) (by kernel_rfl)
instance : TFun Tryz.prog 64 := fun_mk Tryz.func64 (by kernel_rfl) (by kernel_rfl)
instance : TFun Tryz.prog 71 := fun_mk Tryz.func71 (by kernel_rfl) (by kernel_rfl)
instance : TFun Tryz.prog 76 := fun_mk Tryz.func76 (by kernel_rfl) (by kernel_rfl)
instance : TFun Tryz.prog 77 := fun_mk Tryz.func77 (by kernel_rfl) (by kernel_rfl)
instance : TFun Tryz.prog 78 := fun_mk Tryz.func78 (by kernel_rfl) (by kernel_rfl)
instance : TFun Tryz.prog 79 := fun_mk Tryz.func79 (by kernel_rfl) (by kernel_rfl)
instance : TFun Tryz.prog 80 := fun_mk Tryz.func80 (by kernel_rfl) (by kernel_rfl)
instance : TFun Tryz.prog 81 := fun_mk Tryz.func81 (by kernel_rfl) (by kernel_rfl)
instance : TFun Tryz.prog 88 := fun_mk Tryz.func88 (by kernel_rfl) (by kernel_rfl)
instance : TFun Tryz.prog 90 := fun_mk Tryz.func90 (by kernel_rfl) (by kernel_rfl)
instance : TFun Tryz.prog 91 := fun_mk Tryz.func91 (by kernel_rfl) (by kernel_rfl)
instance : TFun Tryz.prog 92 := fun_mk Tryz.func92 (by kernel_rfl) (by kernel_rfl)
instance : TFun Tryz.prog 93 := fun_mk Tryz.func93 (by kernel_rfl) (by kernel_rfl)
instance : TFun Tryz.prog 94 := fun_mk Tryz.func94 (by kernel_rfl) (by kernel_rfl)
instance : TFun Tryz.prog 95 := fun_mk Tryz.func95 (by kernel_rfl) (by kernel_rfl)
instance : TFun Tryz.prog 97 := fun_mk Tryz.func97 (by kernel_rfl) (by kernel_rfl)
instance : TFun Tryz.prog 98 := fun_mk Tryz.func98 (by kernel_rfl) (by kernel_rfl)
instance : TFun Tryz.prog 99 := fun_mk Tryz.func99 (by kernel_rfl) (by kernel_rfl)
instance : TFun Tryz.prog 100 := fun_mk Tryz.func100 (by kernel_rfl) (by kernel_rfl)
instance : TFun Tryz.prog 101 := fun_mk Tryz.func101 (by kernel_rfl) (by kernel_rfl)
instance : TFun Tryz.prog 102 := fun_mk Tryz.func102 (by kernel_rfl) (by kernel_rfl)
instance : TFun Tryz.prog 103 := fun_mk Tryz.func103 (by kernel_rfl) (by kernel_rfl)
instance : TFun Tryz.prog 104 := fun_mk Tryz.func104 (by kernel_rfl) (by kernel_rfl)
instance : TFun Tryz.prog 105 := fun_mk Tryz.func105 (by kernel_rfl) (by kernel_rfl)
instance : TFun Tryz.prog 110 := fun_mk Tryz.func110 (by kernel_rfl) (by kernel_rfl)
instance : TFun Tryz.prog 111 := fun_mk Tryz.func111 (by kernel_rfl) (by kernel_rfl)
instance : TFun Tryz.prog 114 := fun_mk Tryz.func114 (by kernel_rfl) (by kernel_rfl)
instance : TFun Tryz.prog 115 := fun_mk Tryz.func115 (by kernel_rfl) (by kernel_rfl)
instance : TFun Tryz.prog 116 := fun_mk Tryz.func116 (by kernel_rfl) (by kernel_rfl)
instance : TFun Tryz.prog 117 := fun_mk Tryz.func117 (by kernel_rfl) (by kernel_rfl)
instance : TFun Tryz.prog 121 := fun_mk Tryz.func121 (by kernel_rfl) (by kernel_rfl)
instance : TFun Tryz.prog 122 := fun_mk Tryz.func122 (by kernel_rfl) (by kernel_rfl)
instance : TFun Tryz.prog 129 := fun_mk Tryz.func129 (by kernel_rfl) (by kernel_rfl)
instance : TFun Tryz.prog 130 := fun_mk Tryz.func130 (by kernel_rfl) (by kernel_rfl)
instance : TFun Tryz.prog 131 := fun_mk Tryz.func131 (by kernel_rfl) (by kernel_rfl)
instance : TFun Tryz.prog 132 := fun_mk Tryz.func132 (by kernel_rfl) (by kernel_rfl)
instance : TFun Tryz.prog 133 := fun_mk Tryz.func133 (by kernel_rfl) (by kernel_rfl)
instance : TFun Tryz.prog 134 := fun_mk Tryz.func134 (by kernel_rfl) (by kernel_rfl)
instance : TFun Tryz.prog 135 := fun_mk Tryz.func135 (by kernel_rfl) (by kernel_rfl)
instance : TFun Tryz.prog 136 := fun_mk Tryz.func136 (by kernel_rfl) (by kernel_rfl)
instance : TFun Tryz.prog 137 := fun_mk Tryz.func137 (by kernel_rfl) (by kernel_rfl)
instance : TFun Tryz.prog 138 := fun_mk Tryz.func138 (by kernel_rfl) (by kernel_rfl)
instance : TFun Tryz.prog 139 := fun_mk Tryz.func139 (by kernel_rfl) (by kernel_rfl)
instance : TFun Tryz.prog 142 := fun_mk Tryz.func142 (by kernel_rfl) (by kernel_rfl)
instance : TFun Tryz.prog 143 := fun_mk Tryz.func143 (by kernel_rfl) (by kernel_rfl)
instance : TFun Tryz.prog 145 := fun_mk Tryz.func145 (by kernel_rfl) (by kernel_rfl)
instance : TFun Tryz.prog 146 := fun_mk Tryz.func146 (by kernel_rfl) (by kernel_rfl)
instance : TFun Tryz.prog 147 := fun_mk Tryz.func147 (by kernel_rfl) (by kernel_rfl)
instance : TFun Tryz.prog 149 := fun_mk Tryz.func149 (by kernel_rfl) (by kernel_rfl)
instance : TFun Tryz.prog 150 := fun_mk Tryz.func150 (by kernel_rfl) (by kernel_rfl)
instance : TFun Tryz.prog 151 := fun_mk Tryz.func151 (by kernel_rfl) (by kernel_rfl)
instance : TFun Tryz.prog 152 := fun_mk Tryz.func152 (by kernel_rfl) (by kernel_rfl)
instance : TFun Tryz.prog 153 := fun_mk Tryz.func153 (by kernel_rfl) (by kernel_rfl)
instance : TFun Tryz.prog 157 := fun_mk Tryz.func157 (by kernel_rfl) (by kernel_rfl)
instance : TFun Tryz.prog 161 := fun_mk Tryz.func161 (by kernel_rfl) (by kernel_rfl)
instance : TFun Tryz.prog 162 := fun_mk Tryz.func162 (by kernel_rfl) (by kernel_rfl)
instance : TFun Tryz.prog 165 := fun_mk Tryz.func165 (by kernel_rfl) (by kernel_rfl)
instance : TFun Tryz.prog 166 := fun_mk Tryz.func166 (by kernel_rfl) (by kernel_rfl)
instance : TFun Tryz.prog 167 := fun_mk Tryz.func167 (by kernel_rfl) (by kernel_rfl)
instance : TFun Tryz.prog 170 := fun_mk Tryz.func170 (by kernel_rfl) (by kernel_rfl)
instance : TFun Tryz.prog 174 := fun_mk Tryz.func174 (by kernel_rfl) (by kernel_rfl)
instance : TFun Tryz.prog 175 := fun_mk Tryz.func175 (by kernel_rfl) (by kernel_rfl)
instance : TFun Tryz.prog 176 := fun_mk Tryz.func176 (by kernel_rfl) (by kernel_rfl)
instance : TFun Tryz.prog 177 := fun_mk Tryz.func177 (by kernel_rfl) (by kernel_rfl)
instance : TFun Tryz.prog 178 := fun_mk Tryz.func178 (by kernel_rfl) (by kernel_rfl)
instance : TFun Tryz.prog 179 := fun_mk Tryz.func179 (by kernel_rfl) (by kernel_rfl)
instance : TFun Tryz.prog 180 := fun_mk Tryz.func180 (by kernel_rfl) (by kernel_rfl)
instance : TFun Tryz.prog 181 := fun_mk Tryz.func181 (by kernel_rfl) (by kernel_rfl)
instance : TFun Tryz.prog 182 := fun_mk Tryz.func182 (by kernel_rfl) (by kernel_rfl)
instance : TFun Tryz.prog 183 := fun_mk Tryz.func183 (by kernel_rfl) (by kernel_rfl)
instance : TFun Tryz.prog 184 := fun_mk Tryz.func184 (by kernel_rfl) (by kernel_rfl)
instance : TFun Tryz.prog 185 := fun_mk Tryz.func185 (by kernel_rfl) (by kernel_rfl)
instance : TFun Tryz.prog 186 := fun_mk Tryz.func186 (by kernel_rfl) (by kernel_rfl)
instance : TFun Tryz.prog 187 := fun_mk Tryz.func187 (by kernel_rfl) (by kernel_rfl)
instance : TFun Tryz.prog 191 := fun_mk Tryz.func191 (by kernel_rfl) (by kernel_rfl)
instance : TFun Tryz.prog 194 := fun_mk Tryz.func194 (by kernel_rfl) (by kernel_rfl)
instance : TFun Tryz.prog 195 := fun_mk Tryz.func195 (by kernel_rfl) (by kernel_rfl)
instance : TFun Tryz.prog 196 := fun_mk Tryz.func196 (by kernel_rfl) (by kernel_rfl)
instance : TFun Tryz.prog 197 := fun_mk Tryz.func197 (by kernel_rfl) (by kernel_rfl)
instance : TFun Tryz.prog 199 := fun_mk Tryz.func199 (by kernel_rfl) (by kernel_rfl)
instance : TFun Tryz.prog 200 := fun_mk Tryz.func200 (by kernel_rfl) (by kernel_rfl)
instance : TFun Tryz.prog 201 := fun_mk Tryz.func201 (by kernel_rfl) (by kernel_rfl)
instance : TFun Tryz.prog 202 := fun_mk Tryz.func202 (by kernel_rfl) (by kernel_rfl)
instance : TFun Tryz.prog 212 := fun_mk Tryz.func212 (by kernel_rfl) (by kernel_rfl)
instance : TFun Tryz.prog 213 := fun_mk Tryz.func213 (by kernel_rfl) (by kernel_rfl)
instance : TFun Tryz.prog 214 := fun_mk Tryz.func214 (by kernel_rfl) (by kernel_rfl)
instance : TFun Tryz.prog 215 := fun_mk Tryz.func215 (by kernel_rfl) (by kernel_rfl)
instance : TFun Tryz.prog 216 := fun_mk Tryz.func216 (by kernel_rfl) (by kernel_rfl)
instance : TFun Tryz.prog 222 := fun_mk Tryz.func222 (by kernel_rfl) (by kernel_rfl)
instance : TFun Tryz.prog 241 := fun_mk Tryz.func241 (by kernel_rfl) (by kernel_rfl)
instance : TFun Tryz.prog 242 := fun_mk Tryz.func242 (by kernel_rfl) (by kernel_rfl)
end Go.Proofs.YtpohjepbmgeplaaGreatDoor

/- Plain facts on wraps, shifts, words of bytes. -/
namespace Go.Proofs.K
open Go.RowKit

theorem shr_nat (x : Nat) (m : Int) (h : 0 ≤ m ∧ m ≤ 64) : (x : Int).fdiv (2 ^ (min m.toNat 64)) = ((x / 2 ^ m.toNat : Nat) : Int) := by
  rw [Nat.min_eq_left (by omega), Int.fdiv_eq_ediv_of_nonneg _ (by exact Int.le_of_lt (Int.pow_pos (by omega)))]
  simp
theorem u8_nat (x : Nat) : IntKind.u8.wrap (x : Int) = ((x % 256 : Nat) : Int) := by rw [IntKind.wrap_u8]; omega
theorem u64_nat (x : Nat) : IntKind.u64.wrap (x : Int) = ((x % 18446744073709551616 : Nat) : Int) := by rw [IntKind.wrap_u64]; omega

/-- byte k of a number -/
def byteAt (x k : Nat) : Nat := x / 256 ^ k % 256
/-- the first k bytes of a number, as bytes and as cells -/
def word (x k : Nat) : List Nat := (List.range k).map (byteAt x)
theorem word_succ (x k : Nat) : word x (k + 1) = word x k ++ [byteAt x k] := by simp [word, List.range_succ]
theorem word_len (x k : Nat) : (word x k).length = k := by simp [word]
theorem shr_byte (x k : Nat) (hk : k ≤ 7) : IntKind.u8.wrap ((x : Int).fdiv (2 ^ min ((8 : Int) * (k : Nat)).toNat IntKind.u64.bits)) = ((byteAt x k : Nat) : Int) := by
  have e : IntKind.u64.bits = 64 := rfl
  rw [e, shr_nat x _ (by omega), u8_nat]
  have : ((8 : Int) * (k : Nat)).toNat = 8 * k := by omega
  rw [this, byteAt, show (256 : Nat) = 2 ^ 8 from rfl, ← Nat.pow_mul]
end Go.Proofs.K

/- The field of 2^64 - 2^32 + 1 elements as a ring, its quadratic extension, powers, roots of unity: plain Lean. -/
namespace Fd

abbrev pr : Nat := 18446744069414584321
instance : NeZero pr := ⟨by decide⟩
abbrev K := Fin pr
def k (n : Nat) : K := Fin.ofNat pr n
theorem k_val (n : Nat) : (k n).val = n % pr := rfl
theorem val_k (x : K) : k x.val = x := Fin.ext (Nat.mod_eq_of_lt x.isLt)
theorem k_of {n : Nat} (h : n < pr) : (k n).val = n := Nat.mod_eq_of_lt h
theorem add_val (x y : K) : (x + y).val = (x.val + y.val) % pr := rfl
theorem mul_val (x y : K) : (x * y).val = x.val * y.val % pr := rfl
theorem sub_val (x y : K) : (x - y).val = (pr - y.val + x.val) % pr := rfl
theorem k_add (a b : Nat) : k (a + b) = k a + k b := Fin.ext (by rw [add_val, k_val, k_val, k_val, ← Nat.add_mod])
theorem k_mul (a b : Nat) : k (a * b) = k a * k b := Fin.ext (by rw [mul_val, k_val, k_val, k_val, ← Nat.mul_mod])
theorem K.ext {x y : K} (h : x.val = y.val) : x = y := Fin.ext h

/-! powers -/
section
variable {R : Type} [One R] [Mul R]
def pw (x : R) : Nat → R
  | 0 => 1
  | n + 1 => pw x n * x
end
theorem one_mul' (x : K) : 1 * x = x := by grind
theorem pw_add (x : K) (a : Nat) : ∀ b, pw x (a + b) = pw x a * pw x b
  | 0 => by show pw x a = pw x a * 1; grind
  | b + 1 => by
    show pw x (a + b) * x = pw x a * (pw x b * x)
    rw [pw_add x a b]; grind
theorem pw_mul (x : K) (a : Nat) : ∀ b, pw x (a * b) = pw (pw x a) b
  | 0 => rfl
  | b + 1 => by
    rw [Nat.mul_succ, pw_add, pw_mul x a b]; rfl
theorem pw_one (x : K) : pw x 1 = x := one_mul' x
theorem pw_two (x : K) : pw x 2 = x * x := by show 1 * x * x = x * x; grind
theorem one_pw : ∀ n, pw (1 : K) n = 1
  | 0 => rfl
  | n + 1 => by show pw (1 : K) n * 1 = 1; rw [one_pw n]; grind
/-- powers by squaring, for the kernel -/
def pwB : Nat → K → K → Nat → K
  | 0, acc, _, _ => acc
  | m + 1, acc, x, n => bif Nat.beq n 0 then acc else pwB m (bif Nat.beq (n % 2) 1 then acc * x else acc) (x * x) (n / 2)
theorem pwB_eq : ∀ (m : Nat) (acc x : K) (n : Nat), n < 2 ^ m → pwB m acc x n = acc * pw x n
  | 0, acc, x, n, h => by
    have : n = 0 := by simpa using h
    subst this
    show acc = acc * 1; grind
  | m + 1, acc, x, n, h => by
    unfold pwB
    by_cases h0 : n = 0
    · subst h0
      show acc = acc * 1; grind
    · have e : Nat.beq n 0 = false := by
        cases hb : Nat.beq n 0
        · rfl
        · exact (h0 (Nat.eq_of_beq_eq_true hb)).elim
      rw [e]
      have h2 : n / 2 < 2 ^ m := by rw [Nat.pow_succ] at h; omega
      have ih := pwB_eq m
      have hp : pw x n = pw x (n % 2) * pw (x * x) (n / 2) := by
        rw [← pw_two, ← pw_mul, ← pw_add]; congr 1; omega
      show pwB m _ (x * x) (n / 2) = _
      rw [ih _ _ _ h2, hp]
      have h01 : n % 2 = 0 ∨ n % 2 = 1 := by omega
      rcases h01 with h0 | h0 <;> rw [h0]
      · show acc * _ = acc * (1 * _); grind
      · show acc * x * _ = acc * (1 * x * _); grind

/-! roots of unity -/
/-- of order 2^j -/
def root (j : Nat) : K := pw 7 ((pr - 1) / 2 ^ j)
theorem root_sq {j : Nat} (h : j < 32) : root (j + 1) * root (j + 1) = root j := by
  unfold root
  rw [← pw_two, ← pw_mul]
  congr 1
  have hd : (pr - 1) = 2 ^ 32 * 4294967295 := by decide
  rw [hd, show 32 = (j + 1) + (32 - (j + 1)) by omega, Nat.pow_add, Nat.mul_assoc, Nat.mul_div_cancel_left _ (Nat.pow_pos (by decide))]
  rw [show 2 ^ (j + 1) * (2 ^ (32 - (j + 1)) * 4294967295) = 2 ^ j * (2 ^ (32 - (j + 1)) * 4294967295 * 2) by rw [Nat.pow_succ]; simp only [Nat.mul_assoc, Nat.mul_comm, Nat.mul_left_comm]]
  rw [Nat.mul_div_cancel_left _ (Nat.pow_pos (by decide))]
theorem root_one : root 1 = -1 := by
  have h := pwB_eq 64 1 7 ((pr - 1) / 2 ^ 1) (by decide)
  have e : pwB 64 1 7 ((pr - 1) / 2 ^ 1) = -1 := by decide +kernel
  unfold root
  rw [← one_mul' (pw 7 _), ← h, e]
theorem root_zero : root 0 = 1 := by
  rw [← root_sq (by decide), root_one]; grind
theorem root_pow : ∀ (i j : Nat), i + j ≤ 32 → pw (root (i + j)) (2 ^ i) = root j
  | 0, j, _ => by rw [Nat.zero_add]; exact pw_one _
  | i + 1, j, h => by
    rw [Nat.pow_succ, Nat.mul_comm, pw_mul, pw_two, show i + 1 + j = (i + j) + 1 by omega, root_sq (by omega)]
    exact root_pow i j (by omega)
theorem root_order {j : Nat} (h : j ≤ 32) : pw (root j) (2 ^ j) = 1 := by
  have := root_pow j 0 (by omega)
  rwa [root_zero] at this
theorem root_half {j : Nat} (h : j + 1 ≤ 32) : pw (root (j + 1)) (2 ^ j) = -1 := by rw [root_pow j 1 h, root_one]

/-! the extension by a root of x^2 = 7 -/
structure E where
  a : K
  b : K
theorem E.eq {x y : E} (h : x.a = y.a) (h2 : x.b = y.b) : x = y := by cases x; cases y; simp_all
instance : DecidableEq E := fun x y => decidable_of_iff (x.a = y.a ∧ x.b = y.b) ⟨fun h => E.eq h.1 h.2, fun h => by subst h; exact ⟨rfl, rfl⟩⟩
instance : Zero E := ⟨⟨0, 0⟩⟩
instance : One E := ⟨⟨1, 0⟩⟩
instance : Add E := ⟨fun x y => ⟨x.a + y.a, x.b + y.b⟩⟩
instance : Neg E := ⟨fun x => ⟨-x.a, -x.b⟩⟩
instance : Sub E := ⟨fun x y => ⟨x.a - y.a, x.b - y.b⟩⟩
instance : Mul E := ⟨fun x y => ⟨x.a * y.a + 7 * (x.b * y.b), x.a * y.b + x.b * y.a⟩⟩
def E.of (x : K) : E := ⟨x, 0⟩
theorem E.defs : (∀ x y : E, (x + y).a = x.a + y.a) ∧ (∀ x y : E, (x + y).b = x.b + y.b) ∧ (∀ x y : E, (x - y).a = x.a - y.a) ∧ (∀ x y : E, (x - y).b = x.b - y.b) ∧ (∀ x : E, (-x).a = -x.a) ∧ (∀ x : E, (-x).b = -x.b) ∧ (∀ x y : E, (x * y).a = x.a * y.a + 7 * (x.b * y.b)) ∧ (∀ x y : E, (x * y).b = x.a * y.b + x.b * y.a) ∧ (0 : E).a = 0 ∧ (0 : E).b = 0 ∧ (1 : E).a = 1 ∧ (1 : E).b = 0 :=
  ⟨fun _ _ => rfl, fun _ _ => rfl, fun _ _ => rfl, fun _ _ => rfl, fun _ => rfl, fun _ => rfl, fun _ _ => rfl, fun _ _ => rfl, rfl, rfl, rfl, rfl⟩
end Fd

/- The transform by halves: what each stage holds, plain Lean. -/
namespace Fd

def sm : Nat → (Nat → K) → K
  | 0, _ => 0
  | n + 1, f => sm n f + f n
theorem sm_congr : ∀ (n : Nat) {f g : Nat → K}, (∀ i, i < n → f i = g i) → sm n f = sm n g
  | 0, _, _, _ => rfl
  | n + 1, f, g, h => by
    show sm n f + f n = sm n g + g n
    rw [sm_congr n fun i hi => h i (by omega), h n (by omega)]
theorem sm_add (f g : Nat → K) : ∀ n, sm n (fun i => f i + g i) = sm n f + sm n g
  | 0 => by show (0 : K) = 0 + 0; grind
  | n + 1 => by
    show sm n _ + (f n + g n) = sm n f + f n + (sm n g + g n)
    rw [sm_add f g n]; grind
theorem sm_mul (c : K) (f : Nat → K) : ∀ n, sm n (fun i => f i * c) = sm n f * c
  | 0 => by show (0 : K) = 0 * c; grind
  | n + 1 => by
    show sm n _ + f n * c = (sm n f + f n) * c
    rw [sm_mul c f n]; grind
theorem sm_two (f : Nat → K) : ∀ n, sm (2 * n) f = sm n (fun i => f (2 * i)) + sm n (fun i => f (2 * i + 1))
  | 0 => by show (0 : K) = 0 + 0; grind
  | n + 1 => by
    show sm (2 * n) f + f (2 * n) + f (2 * n + 1) = sm n _ + f (2 * n) + (sm n _ + f (2 * n + 1))
    rw [sm_two f n]; grind
/-- the bits of a number below 2^m, in reverse -/
def rev : Nat → Nat → Nat
  | 0, _ => 0
  | m + 1, b => (b % 2) * 2 ^ m + rev m (b / 2)
theorem rev_even (m b : Nat) : rev (m + 1) (2 * b) = rev m b := by
  show (2 * b % 2) * 2 ^ m + rev m (2 * b / 2) = rev m b
  rw [show 2 * b % 2 = 0 by omega, show 2 * b / 2 = b by omega, Nat.zero_mul, Nat.zero_add]
theorem rev_odd (m b : Nat) : rev (m + 1) (2 * b + 1) = 2 ^ m + rev m b := by
  show ((2 * b + 1) % 2) * 2 ^ m + rev m ((2 * b + 1) / 2) = 2 ^ m + rev m b
  rw [show (2 * b + 1) % 2 = 1 by omega, show (2 * b + 1) / 2 = b by omega, Nat.one_mul]
theorem rev_lt : ∀ m b, rev m b < 2 ^ m
  | 0, _ => by show 0 < 2 ^ 0; decide
  | m + 1, b => by
    show (b % 2) * 2 ^ m + rev m (b / 2) < 2 ^ (m + 1)
    have := rev_lt m (b / 2)
    have h2 : b % 2 = 0 ∨ b % 2 = 1 := by omega
    rw [Nat.pow_succ]
    rcases h2 with h | h <;> rw [h] <;> omega
/-- what place r of block b holds behind stage k -/
def stv (a : Nat → K) (m k b r : Nat) : K := sm (2 ^ k) fun t => a (t * 2 ^ (m - k) + rev (m - k) b) * pw (root k) (r * t)
theorem stv_zero (a : Nat → K) (m b : Nat) : stv a m 0 b 0 = a (rev m b) := by
  show (0 : K) + a (0 * 2 ^ (m - 0) + rev (m - 0) b) * pw (root 0) (0 * 0) = _
  rw [Nat.zero_mul, Nat.zero_add, Nat.sub_zero]
  show (0 : K) + a (rev m b) * 1 = _
  grind
theorem stv_full (a : Nat → K) (m r : Nat) : stv a m m 0 r = sm (2 ^ m) fun t => a t * pw (root m) (r * t) := by
  unfold stv
  refine sm_congr _ fun t _ => ?_
  rw [Nat.sub_self, Nat.pow_zero, Nat.mul_one]; rfl
theorem pow_two_le {k m : Nat} (h : k + 1 ≤ m) : 2 ^ (m - k) = 2 * 2 ^ (m - (k + 1)) := by
  rw [show m - k = (m - (k + 1)) + 1 by omega, Nat.pow_succ, Nat.mul_comm]
theorem stv_even (a : Nat → K) {m k : Nat} (h : k + 1 ≤ m) (hk : k + 1 ≤ 32) (b r : Nat) :
    sm (2 ^ k) (fun t => a (2 * t * 2 ^ (m - (k + 1)) + rev (m - (k + 1)) b) * pw (root (k + 1)) (r * (2 * t))) = stv a m k (2 * b) r := by
  unfold stv
  refine sm_congr _ fun t _ => ?_
  rw [pow_two_le h, show m - k = (m - (k + 1)) + 1 by omega, rev_even, ← root_sq (j := k) (by omega), ← pw_two, ← pw_mul]
  rw [show 2 * t * 2 ^ (m - (k + 1)) = t * (2 * 2 ^ (m - (k + 1))) by simp only [Nat.mul_assoc, Nat.mul_comm], show r * (2 * t) = 2 * (r * t) by simp only [Nat.mul_assoc, Nat.mul_comm]]
theorem stv_odd (a : Nat → K) {m k : Nat} (h : k + 1 ≤ m) (hk : k + 1 ≤ 32) (b r : Nat) :
    sm (2 ^ k) (fun t => a ((2 * t + 1) * 2 ^ (m - (k + 1)) + rev (m - (k + 1)) b) * pw (root (k + 1)) (r * (2 * t + 1))) = stv a m k (2 * b + 1) r * pw (root (k + 1)) r := by
  unfold stv
  rw [← sm_mul]
  refine sm_congr _ fun t _ => ?_
  rw [pow_two_le h, show m - k = (m - (k + 1)) + 1 by omega, rev_odd, ← root_sq (j := k) (by omega), ← pw_two, ← pw_mul]
  rw [show (2 * t + 1) * 2 ^ (m - (k + 1)) + rev (m - (k + 1)) b = t * (2 * 2 ^ (m - (k + 1))) + (2 ^ (m - (k + 1)) + rev (m - (k + 1)) b) by rw [Nat.add_mul, Nat.one_mul, ← Nat.add_assoc]; congr 2; simp only [Nat.mul_assoc, Nat.mul_comm]]
  rw [show r * (2 * t + 1) = 2 * (r * t) + r by rw [Nat.mul_add, Nat.mul_one]; congr 1; simp only [Nat.mul_assoc, Nat.mul_comm], pw_add]
  grind
theorem stv_low (a : Nat → K) {m k : Nat} (h : k + 1 ≤ m) (hk : k + 1 ≤ 32) (b r : Nat) :
    stv a m (k + 1) b r = stv a m k (2 * b) r + stv a m k (2 * b + 1) r * pw (root (k + 1)) r := by
  rw [← stv_even a h hk, ← stv_odd a h hk]
  conv => lhs; unfold stv
  rw [show 2 ^ (k + 1) = 2 * 2 ^ k by rw [Nat.pow_succ, Nat.mul_comm], sm_two]
theorem stv_per (a : Nat → K) {m k : Nat} (hk : k ≤ 32) (b r : Nat) : stv a m k b (r + 2 ^ k) = stv a m k b r := by
  unfold stv
  refine sm_congr _ fun t _ => ?_
  rw [Nat.add_mul, pw_add, pw_mul (root k) (2 ^ k) t, root_order hk, one_pw]; grind
theorem stv_high (a : Nat → K) {m k : Nat} (h : k + 1 ≤ m) (hk : k + 1 ≤ 32) (b r : Nat) :
    stv a m (k + 1) b (r + 2 ^ k) = stv a m k (2 * b) r - stv a m k (2 * b + 1) r * pw (root (k + 1)) r := by
  rw [stv_low a h hk, stv_per a (by omega), stv_per a (by omega), pw_add, root_half (by omega)]
  grind
end Fd

/- The extension as a ring; tables of the equality polynomial; weighted sums: plain Lean. -/
namespace Fd

theorem E.add_comm (x y : E) : x + y = y + x := by (apply E.eq <;> simp only [E.defs] <;> grind)
theorem E.add_assoc (x y z : E) : x + y + z = x + (y + z) := by (apply E.eq <;> simp only [E.defs] <;> grind)
theorem E.mul_comm (x y : E) : x * y = y * x := by (apply E.eq <;> simp only [E.defs] <;> grind)
theorem E.mul_assoc (x y z : E) : x * y * z = x * (y * z) := by (apply E.eq <;> simp only [E.defs] <;> grind)
theorem E.mul_add (x y z : E) : x * (y + z) = x * y + x * z := by (apply E.eq <;> simp only [E.defs] <;> grind)
theorem E.mul_sub (x y z : E) : x * (y - z) = x * y - x * z := by (apply E.eq <;> simp only [E.defs] <;> grind)
theorem E.zero_add (x : E) : 0 + x = x := by (apply E.eq <;> simp only [E.defs] <;> grind)
theorem E.add_zero (x : E) : x + 0 = x := by (apply E.eq <;> simp only [E.defs] <;> grind)
theorem E.one_mul (x : E) : 1 * x = x := by (apply E.eq <;> simp only [E.defs] <;> grind)
theorem E.mul_one (x : E) : x * 1 = x := by (apply E.eq <;> simp only [E.defs] <;> grind)
theorem E.mul_zero (x : E) : x * 0 = 0 := by (apply E.eq <;> simp only [E.defs] <;> grind)
theorem E.of_add (x y : K) : E.of (x + y) = E.of x + E.of y := by
  refine E.eq rfl ?_
  show (0 : K) = 0 + 0; grind
theorem E.of_mul (x y : K) : E.of (x * y) = E.of x * E.of y := by
  refine E.eq ?_ ?_
  · show x * y = x * y + 7 * (0 * 0); grind
  · show (0 : K) = x * 0 + 0 * y; grind
theorem E.mul_of (x : E) (c : K) : x * E.of c = ⟨x.a * c, x.b * c⟩ := by
  refine E.eq ?_ ?_
  · show x.a * c + 7 * (x.b * 0) = x.a * c; grind
  · show x.a * 0 + x.b * c = x.b * c; grind
theorem E.of_one : E.of 1 = 1 := rfl
/-- the program's product: three products of the base field -/
theorem E.mul_kara (x y : E) : x * y = ⟨x.a * y.a + 7 * (x.b * y.b), (x.a + x.b) * (y.a + y.b) - x.a * y.a - x.b * y.b⟩ := by
  refine E.eq rfl ?_
  show x.a * y.b + x.b * y.a = (x.a + x.b) * (y.a + y.b) - x.a * y.a - x.b * y.b
  grind

/-! the table of the equality polynomial -/
/-- its value at the vertex of an index, the lowest bit first -/
def eqI : List E → Nat → E
  | [], _ => 1
  | x :: r, i => (bif i % 2 == 1 then x else 1 - x) * eqI r (i / 2)
theorem eqI_snoc : ∀ (l : List E) (x : E) (i : Nat), eqI (l ++ [x]) i = eqI l i * (bif (i / 2 ^ l.length) % 2 == 1 then x else 1 - x)
  | [], x, i => by
    show (bif i % 2 == 1 then x else 1 - x) * 1 = 1 * (bif (i / 1) % 2 == 1 then x else 1 - x)
    rw [Nat.div_one, E.mul_comm]
  | y :: l, x, i => by
    show (bif i % 2 == 1 then y else 1 - y) * eqI (l ++ [x]) (i / 2) = (bif i % 2 == 1 then y else 1 - y) * eqI l (i / 2) * _
    rw [eqI_snoc l x (i / 2), E.mul_assoc, List.length_cons, Nat.pow_succ, Nat.mul_comm (2 ^ l.length) 2, Nat.div_div_eq_div_mul]
theorem eqI_mod : ∀ (l : List E) (i j : Nat), eqI l (i + 2 ^ l.length * j) = eqI l i
  | [], _, _ => rfl
  | y :: l, i, j => by
    show (bif (i + 2 ^ (l.length + 1) * j) % 2 == 1 then y else 1 - y) * eqI l ((i + 2 ^ (l.length + 1) * j) / 2) = (bif i % 2 == 1 then y else 1 - y) * eqI l (i / 2)
    rw [show 2 ^ (l.length + 1) * j = 2 * (2 ^ l.length * j) by rw [Nat.pow_succ, Nat.mul_comm (2 ^ l.length) 2, Nat.mul_assoc]]
    rw [show (i + 2 * (2 ^ l.length * j)) % 2 = i % 2 by omega, show (i + 2 * (2 ^ l.length * j)) / 2 = i / 2 + 2 ^ l.length * j by omega, eqI_mod l]
def eqT (l : List E) : List E := (List.range (2 ^ l.length)).map (eqI l)
theorem eqT_len (l : List E) : (eqT l).length = 2 ^ l.length := by simp [eqT]
theorem eqT_get (l : List E) {i : Nat} (h : i < 2 ^ l.length) : (eqT l)[i]? = some (eqI l i) := by simp [eqT, h]
theorem eqI_low (l : List E) (x : E) {i : Nat} (h : i < 2 ^ l.length) : eqI (l ++ [x]) i = eqI l i - eqI l i * x := by
  rw [eqI_snoc, Nat.div_eq_of_lt h]
  show eqI l i * (1 - x) = _
  rw [E.mul_sub, E.mul_one]
theorem eqI_high (l : List E) (x : E) {i : Nat} (h : i < 2 ^ l.length) : eqI (l ++ [x]) (i + 2 ^ l.length) = eqI l i * x := by
  have hp : 0 < 2 ^ l.length := Nat.pow_pos (by decide)
  rw [eqI_snoc, Nat.add_div_right _ hp, Nat.div_eq_of_lt h]
  have := eqI_mod l i 1
  rw [Nat.mul_one] at this
  rw [this]; rfl

/-! sums over the extension -/
def es : Nat → (Nat → E) → E
  | 0, _ => 0
  | n + 1, f => es n f + f n
theorem es_congr : ∀ (n : Nat) {f g : Nat → E}, (∀ i, i < n → f i = g i) → es n f = es n g
  | 0, _, _, _ => rfl
  | n + 1, f, g, h => by
    show es n f + f n = es n g + g n
    rw [es_congr n fun i hi => h i (by omega), h n (by omega)]
theorem es_add (f g : Nat → E) : ∀ n, es n (fun i => f i + g i) = es n f + es n g
  | 0 => (E.zero_add 0).symm
  | n + 1 => by
    show es n _ + (f n + g n) = es n f + f n + (es n g + g n)
    rw [es_add f g n]; (apply E.eq <;> simp only [E.defs] <;> grind)
theorem es_mul (c : E) (f : Nat → E) : ∀ n, es n (fun i => c * f i) = c * es n f
  | 0 => (E.mul_zero c).symm
  | n + 1 => by
    show es n _ + c * f n = c * (es n f + f n)
    rw [es_mul c f n, E.mul_add]
theorem es_two (f : Nat → E) : ∀ n, es (2 * n) f = es n (fun i => f (2 * i) + f (2 * i + 1))
  | 0 => rfl
  | n + 1 => by
    show es (2 * n) f + f (2 * n) + f (2 * n + 1) = es n _ + (f (2 * n) + f (2 * n + 1))
    rw [es_two f n, E.add_assoc]
theorem es_zero : ∀ n, es n (fun _ => 0) = 0
  | 0 => rfl
  | n + 1 => by
    show es n _ + 0 = 0
    rw [es_zero n]; rfl
theorem es_split (f : Nat → E) (m : Nat) : ∀ n, es (m + n) f = es m f + es n (fun i => f (m + i))
  | 0 => (E.add_zero _).symm
  | n + 1 => by
    show es (m + n) f + f (m + n) = es m f + (es n _ + f (m + n))
    rw [es_split f m n, E.add_assoc]

/-! the multilinear extension -/
def bindT (t : List E) (r : E) : List E := (List.range (t.length / 2)).map fun i => t.getD (2 * i) 0 + r * (t.getD (2 * i + 1) 0 - t.getD (2 * i) 0)
theorem bindT_len (t : List E) (r : E) : (bindT t r).length = t.length / 2 := by simp [bindT]
theorem bindT_get (t : List E) (r : E) {i : Nat} (h : i < t.length / 2) : (bindT t r).getD i 0 = t.getD (2 * i) 0 + r * (t.getD (2 * i + 1) 0 - t.getD (2 * i) 0) := by
  rw [List.getD_eq_getElem?_getD]
  simp [bindT, h]
def mleB : List E → List E → E
  | t, [] => t.getD 0 0
  | t, r :: p => mleB (bindT t r) p
def mleS (t p : List E) : E := es t.length fun i => t.getD i 0 * eqI p i
theorem mle_eq : ∀ (p t : List E), t.length = 2 ^ p.length → mleB t p = mleS t p
  | [], t, h => by
    unfold mleS
    rw [h]
    show t.getD 0 0 = 0 + t.getD 0 0 * 1
    rw [E.zero_add, E.mul_one]
  | r :: p, t, h => by
    have hl : t.length / 2 = 2 ^ p.length := by rw [h, List.length_cons, Nat.pow_succ]; omega
    show mleB (bindT t r) p = _
    rw [mle_eq p (bindT t r) (by rw [bindT_len, hl])]
    unfold mleS
    rw [bindT_len, hl, h, List.length_cons, Nat.pow_succ, Nat.mul_comm (2 ^ p.length) 2, es_two]
    refine es_congr _ fun i hi => ?_
    rw [bindT_get t r (by omega)]
    have e0 : eqI (r :: p) (2 * i) = (1 - r) * eqI p i := by
      show (bif 2 * i % 2 == 1 then r else 1 - r) * eqI p (2 * i / 2) = _
      rw [show 2 * i % 2 = 0 by omega, show 2 * i / 2 = i by omega]; rfl
    have e1 : eqI (r :: p) (2 * i + 1) = r * eqI p i := by
      show (bif (2 * i + 1) % 2 == 1 then r else 1 - r) * eqI p ((2 * i + 1) / 2) = _
      rw [show (2 * i + 1) % 2 = 1 by omega, show (2 * i + 1) / 2 = i by omega]; rfl
    rw [e0, e1]
    generalize t.getD (2 * i) 0 = a
    generalize t.getD (2 * i + 1) 0 = b
    generalize eqI p i = c
    (apply E.eq <;> simp only [E.defs] <;> grind)
end Fd

/- Reversing bits: plain Lean. -/
namespace Fd
/-- a swap of neighbouring groups of s bits -/
def swp (m s x : Nat) : Nat := (x >>> s &&& m) ||| ((x &&& m) <<< s)
theorem swp_bit {m s x i : Nat} : (swp m s x).testBit i = ((x.testBit (s + i) && m.testBit i) || (decide (s ≤ i) && (x.testBit (i - s) && m.testBit (i - s)))) := by
  unfold swp
  simp [Nat.testBit_or, Nat.testBit_and, Nat.testBit_shiftRight, Nat.testBit_shiftLeft]
/-- masks: bit i stands where i / s is even, below 64 -/
def MaskOk (m s : Nat) : Prop := ∀ i, m.testBit i = (decide (i < 64) && (i / s % 2 == 0))
theorem mask_of {m s : Nat} (hm : m < 2 ^ 64) (h : ∀ i : Fin 64, m.testBit i.1 = (i.1 / s % 2 == 0)) : MaskOk m s := by
  intro i
  by_cases hi : i < 64
  · rw [h ⟨i, hi⟩]; simp [hi]
  · rw [Nat.testBit_lt_two_pow (Nat.lt_of_lt_of_le hm (Nat.pow_le_pow_right (by decide) (by omega)))]; simp [hi]
def flip (s i : Nat) : Nat := if i / s % 2 = 0 then i + s else i - s
theorem swp_flip {m s x : Nat} (hm : MaskOk m s) (hs : s ∈ [1, 2, 4, 8, 16]) {i : Nat} (hi : i < 64) : (swp m s x).testBit i = x.testBit (flip s i) := by
  rw [swp_bit, hm, hm]
  unfold flip
  by_cases h : i / s % 2 = 0
  · rw [if_pos h, Nat.add_comm s i]
    have h2 : ¬ (s ≤ i ∧ (i - s) / s % 2 = 0) := by
      rintro ⟨h1, h2⟩
      simp at hs
      rcases hs with rfl | rfl | rfl | rfl | rfl <;> omega
    by_cases h3 : s ≤ i
    · have : ¬ ((i - s) / s % 2 = 0) := fun h4 => h2 ⟨h3, h4⟩
      simp [hi, h, h3, this]
    · simp [hi, h, h3]
  · rw [if_neg h]
    have h1 : s ≤ i := by
      apply Classical.byContradiction
      intro hc
      rw [Nat.div_eq_of_lt (by omega)] at h
      exact h rfl
    have h2 : (i - s) / s % 2 = 0 := by
      simp at hs
      rcases hs with rfl | rfl | rfl | rfl | rfl <;> omega
    have h3 : i - s < 64 := by omega
    simp [h, h1, h2, h3]
theorem swp_lt {m s x : Nat} (hm : m < 2 ^ (64 - s)) (hs : s ≤ 64) (hm2 : m < 2 ^ 64) : swp m s x < 2 ^ 64 := by
  unfold swp
  apply Nat.or_lt_two_pow
  · exact Nat.lt_of_le_of_lt Nat.and_le_right hm2
  · rw [Nat.shiftLeft_eq]
    have : x &&& m < 2 ^ (64 - s) := Nat.lt_of_le_of_lt Nat.and_le_right hm
    calc (x &&& m) * 2 ^ s < 2 ^ (64 - s) * 2 ^ s := Nat.mul_lt_mul_of_pos_right this (Nat.pow_pos (by decide))
      _ = 2 ^ 64 := by rw [← Nat.pow_add]; congr 1; omega
end Fd
namespace Fd
def m0 : Nat := 0x5555555555555555
def m1 : Nat := 0x3333333333333333
def m2 : Nat := 0x0F0F0F0F0F0F0F0F
def m3 : Nat := 0x00FF00FF00FF00FF
def m4 : Nat := 0x0000FFFF0000FFFF
def rev64 (x : Nat) : Nat :=
  let y := swp m4 16 (swp m3 8 (swp m2 4 (swp m1 2 (swp m0 1 x))))
  (y >>> 32) ||| ((y <<< 32) % 2 ^ 64)
theorem rev64_bit (x : Nat) {i : Nat} (hi : i < 64) : (rev64 x).testBit i = x.testBit (63 - i) := by
  have k0 : MaskOk m0 1 := mask_of (by decide) (by decide +kernel)
  have k1 : MaskOk m1 2 := mask_of (by decide) (by decide +kernel)
  have k2 : MaskOk m2 4 := mask_of (by decide) (by decide +kernel)
  have k3 : MaskOk m3 8 := mask_of (by decide) (by decide +kernel)
  have k4 : MaskOk m4 16 := mask_of (by decide) (by decide +kernel)
  have fl : ∀ s ∈ [1, 2, 4, 8, 16], ∀ j : Fin 64, flip s j.1 < 64 := by decide +kernel
  have cmp : ∀ j : Fin 64, flip 1 (flip 2 (flip 4 (flip 8 (flip 16 (if j.1 < 32 then j.1 + 32 else j.1 - 32))))) = 63 - j.1 := by decide +kernel
  have hy : ∀ j, j < 64 → (swp m4 16 (swp m3 8 (swp m2 4 (swp m1 2 (swp m0 1 x))))).testBit j = x.testBit (flip 1 (flip 2 (flip 4 (flip 8 (flip 16 j))))) := fun j hj => by
    have f4 := fl 16 (by decide) ⟨j, hj⟩
    have f3 := fl 8 (by decide) ⟨_, f4⟩
    have f2 := fl 4 (by decide) ⟨_, f3⟩
    have f1 := fl 2 (by decide) ⟨_, f2⟩
    rw [swp_flip k4 (by decide) hj, swp_flip k3 (by decide) f4, swp_flip k2 (by decide) f3, swp_flip k1 (by decide) f2, swp_flip k0 (by decide) f1]
  have := cmp ⟨i, hi⟩
  dsimp only at this
  unfold rev64
  rw [Nat.testBit_or, Nat.testBit_shiftRight, Nat.testBit_mod_two_pow, Nat.testBit_shiftLeft]
  by_cases h : i < 32
  · rw [if_pos h] at this
    rw [hy _ (by omega), Nat.add_comm 32 i, this]
    simp; omega
  · rw [if_neg h] at this
    have hz : (swp m4 16 (swp m3 8 (swp m2 4 (swp m1 2 (swp m0 1 x))))).testBit (32 + i) = false := by
      refine Nat.testBit_lt_two_pow (Nat.lt_of_lt_of_le (swp_lt (by decide) (by decide) (by decide)) (Nat.pow_le_pow_right (by decide) (by omega)))
    rw [hz, hy _ (by omega), this]
    simp [hi]; omega
theorem rev64_lt (x : Nat) : rev64 x < 2 ^ 64 := by
  unfold rev64
  apply Nat.or_lt_two_pow
  · refine Nat.lt_of_le_of_lt (Nat.shiftRight_le _ _) (swp_lt (by decide) (by decide) (by decide))
  · exact Nat.mod_lt _ (by decide)
theorem rev_bit : ∀ (m b : Nat) {i : Nat}, i < m → (rev m b).testBit i = b.testBit (m - 1 - i)
  | 0, _, _, h => by omega
  | m + 1, b, i, h => by
    show ((b % 2) * 2 ^ m + rev m (b / 2)).testBit i = _
    rw [Nat.mul_comm]
    by_cases hi : i = m
    · subst hi
      rw [Nat.testBit_two_pow_mul_add _ (rev_lt _ _), if_neg (by omega), Nat.sub_self, show i + 1 - 1 - i = 0 by omega]
      rw [Nat.testBit_zero, Nat.testBit_zero, Nat.mod_mod]
    · rw [Nat.testBit_two_pow_mul_add _ (rev_lt _ _), if_pos (by omega), rev_bit m (b / 2) (by omega), Nat.testBit_div_two, show m - 1 - i + 1 = m + 1 - 1 - i by omega]
theorem rev_rev64 {m b : Nat} (hm : m ≤ 64) : rev64 b >>> (64 - m) = rev m b := by
  apply Nat.eq_of_testBit_eq
  intro i
  rw [Nat.testBit_shiftRight]
  by_cases h : i < m
  · rw [rev64_bit b (by omega), rev_bit m b h]; congr 1; omega
  · rw [Nat.testBit_lt_two_pow (Nat.lt_of_lt_of_le (rev64_lt b) (Nat.pow_le_pow_right (by decide) (by omega))), Nat.testBit_lt_two_pow (Nat.lt_of_lt_of_le (rev_lt m b) (Nat.pow_le_pow_right (by decide) (by omega)))]
theorem rev_invol {m b : Nat} (h : b < 2 ^ m) : rev m (rev m b) = b := by
  apply Nat.eq_of_testBit_eq
  intro i
  by_cases hi : i < m
  · rw [rev_bit m _ hi, rev_bit m _ (by omega)]; congr 1; omega
  · rw [Nat.testBit_lt_two_pow (Nat.lt_of_lt_of_le (rev_lt m _) (Nat.pow_le_pow_right (by decide) (by omega))), Nat.testBit_lt_two_pow (Nat.lt_of_lt_of_le h (Nat.pow_le_pow_right (by decide) (by omega)))]
end Fd

/- Differences of the points of a code are units; a polynomial with as many roots as coefficients is zero. -/
namespace Fd
/-! polynomials over the extension, by Horner's rule from the lowest coefficient -/
def ev : List E → K → E
  | [], _ => 0
  | c :: l, x => c + ev l x * E.of x
end Fd

/- Codewords: values of a row's polynomial at the powers of a root of unity. -/
namespace Fd

def evK : List K → K → K
  | [], _ => 0
  | c :: l, x => c + evK l x * x
theorem sm_shift (f : Nat → K) : ∀ n, sm (n + 1) f = f 0 + sm n (fun i => f (i + 1))
  | 0 => by show 0 + f 0 = f 0 + 0; grind
  | n + 1 => by
    show sm (n + 1) f + f (n + 1) = f 0 + (sm n _ + f (n + 1))
    rw [sm_shift f n]; grind
theorem evK_sm (x : K) : ∀ l : List K, evK l x = sm l.length fun t => l.getD t 0 * pw x t
  | [] => rfl
  | c :: l => by
    rw [List.length_cons, sm_shift]
    show c + evK l x * x = c * 1 + sm l.length fun t => l.getD t 0 * (pw x t * x)
    rw [evK_sm x l, ← sm_mul]
    have : (sm l.length fun i => l.getD i 0 * pw x i * x) = sm l.length fun t => l.getD t 0 * (pw x t * x) := sm_congr _ fun i _ => by grind
    rw [this]; grind
theorem sm_pad (f : Nat → K) {a : Nat} : ∀ b, (∀ i, a ≤ i → f i = 0) → sm (a + b) f = sm a f
  | 0, _ => rfl
  | b + 1, h => by
    show sm (a + b) f + f (a + b) = sm a f
    rw [sm_pad f b h, h (a + b) (by omega)]; grind
/-- symbol i of the codeword of a row, of length 2^m -/
def sym (l : List K) (m i : Nat) : K := evK l (pw (root m) i)
def enc (l : List K) (m : Nat) : List K := (List.range (2 ^ m)).map (sym l m)
theorem enc_len (l : List K) (m : Nat) : (enc l m).length = 2 ^ m := by simp [enc]
theorem enc_get (l : List K) {m i : Nat} (h : i < 2 ^ m) : (enc l m)[i]? = some (sym l m i) := by simp [enc, h]
theorem stv_sym (l : List K) {m r : Nat} (h : l.length ≤ 2 ^ m) : stv (fun t => l.getD t 0) m m 0 r = sym l m r := by
  rw [stv_full]
  unfold sym
  rw [evK_sm]
  obtain ⟨b, hb⟩ : ∃ b, 2 ^ m = l.length + b := ⟨2 ^ m - l.length, by omega⟩
  rw [hb, sm_pad _ b fun i hi => by rw [List.getD_eq_getElem?_getD, List.getElem?_eq_none hi]; show (0 : K) * _ = 0; grind]
  exact sm_congr _ fun t _ => by rw [pw_mul]
/-- weighted sums of numbers -/
def comb (w : List E) (l : List K) : E := es l.length fun i => w.getD i 0 * E.of (l.getD i 0)
theorem ev_es (x : K) : ∀ l : List E, ev l x = es l.length fun t => l.getD t 0 * E.of (pw x t)
  | [] => rfl
  | c :: l => by
    have hs : ∀ (f : Nat → E) n, es (n + 1) f = f 0 + es n (fun i => f (i + 1)) := by
      intro f n
      induction n with
      | zero => show 0 + f 0 = f 0 + 0; rw [E.zero_add, E.add_zero]
      | succ n ih =>
        show es (n + 1) f + f (n + 1) = f 0 + (es n _ + f (n + 1))
        rw [ih, E.add_assoc]
    rw [List.length_cons, hs]
    show c + ev l x * E.of x = c * E.of 1 + es l.length fun t => l.getD t 0 * E.of (pw x t * x)
    rw [ev_es x l, E.of_one, E.mul_one, E.mul_comm _ (E.of x), ← es_mul]
    congr 1
    refine es_congr _ fun t _ => ?_
    rw [E.of_mul]
    generalize l.getD t 0 = p
    generalize E.of (pw x t) = q
    generalize E.of x = y
    (apply E.eq <;> simp only [E.defs] <;> grind)
theorem es_swap (f : Nat → Nat → E) (n : Nat) : ∀ m, es m (fun i => es n (f i)) = es n (fun j => es m fun i => f i j)
  | 0 => by
    show (0 : E) = es n fun _ => 0
    rw [es_zero]
  | m + 1 => by
    show es m _ + es n (f m) = es n fun j => es m (fun i => f i j) + f m j
    rw [es_swap f n m, ← es_add]
end Fd

/- The base field: the program's. -/
namespace Go.Proofs.YtpohjepbmgeplaaGreatDoor
open Go.RowKit Go.Proofs.K
open _root_.Fd (pr)

/-- an element, in the machine -/
@[reducible] def kv (x : Fd.K) : Value := .int .u64 (x.val : Nat)
theorem klt (x : Fd.K) : x.val < 18446744069414584321 := x.isLt
theorem gvalid (x : Nat) (w : World) :
    Calls Tryz.prog 101 #[.int .u64 (x : Nat)] w fun e w' => e = .returned (.bool (decide (x < pr))) ∧ Ext w w' := by
  refine calls_W Tryz.func101 rfl Tryz.ntmps101 rfl ?_
  (refine W_seq ?_; refine W_region ?_; refine Ls (X_assign (v := .bool _) rfl) ?_; refine L_nil ?_; refine tn ?_; refine W_seq ?_; refine W_region ?_; refine Ls (X_move (v := .int _ _) rfl) ?_; refine Ls (X_lss rfl rfl) ?_; refine Ls (X_assign (v := .bool _) rfl) ?_; refine L_nil ?_; refine tn ?_; refine W_ret ?_)
  refine endQ_ret1 rfl rfl (v := .bool _) rfl ?_
  refine ⟨?_, Ext.refl w⟩
  have e : decide ((x : Int) < 18446744069414584321) = decide (x < pr) := decide_eq_decide.2 (by unfold Fd.pr; omega)
  rw [e]
theorem greduce (x : Nat) (hx : x < 18446744073709551616) (w : World) :
    Calls Tryz.prog 200 #[.int .u64 (x : Nat)] w fun e w' => e = .returned (kv (Fd.k x)) ∧ Ext w w' := by
  refine calls_W Tryz.func200 rfl Tryz.ntmps200 rfl ?_
  (refine W_seq ?_; refine W_region ?_; refine Ls (X_assign (v := .int _ _) rfl) ?_; refine L_nil ?_; refine tn ?_; refine W_seq ?_; refine W_seq ?_; refine W_region ?_; refine Ls (X_move (v := .int _ _) rfl) ?_; refine Ls (X_geq rfl rfl) ?_; refine L_nil ?_; refine tn ?_)
  refine W_condp rfl (fun h => ?_) (fun h => ?_)
  · (refine W_region ?_; refine Ls (X_move (v := .int _ _) rfl) ?_; refine Ls (X_sub rfl rfl) ?_; refine Ls (X_assign (v := .int _ _) rfl) ?_; refine L_nil ?_; refine tn ?_; refine W_seq ?_; refine W_region ?_; refine Ls (X_move (v := .int _ _) rfl) ?_; refine Ls (X_assign (v := .int _ _) rfl) ?_; refine L_nil ?_; refine tn ?_; refine W_ret ?_)
    refine endQ_ret1 rfl rfl (v := .int _ _) rfl ?_
    refine ⟨?_, Ext.refl w⟩
    have e : (x : Int) - 18446744069414584321 = ((x - 18446744069414584321 : Nat) : Int) := by omega
    have e2 : (Fd.k x).val = x - 18446744069414584321 := by rw [Fd.k_val]; unfold Fd.pr; omega
    unfold kv
    rw [e, u64_nat, Nat.mod_eq_of_lt (by omega), e2]
  · (refine W_skip ?_; refine tn ?_; refine W_seq ?_; refine W_region ?_; refine Ls (X_move (v := .int _ _) rfl) ?_; refine Ls (X_assign (v := .int _ _) rfl) ?_; refine L_nil ?_; refine tn ?_; refine W_ret ?_)
    refine endQ_ret1 rfl rfl (v := .int _ _) rfl ?_
    have e2 : (Fd.k x).val = x := by rw [Fd.k_val]; unfold Fd.pr; omega
    unfold kv
    rw [e2]
    exact ⟨rfl, Ext.refl w⟩
theorem gadd (x y : Fd.K) (w : World) :
    Calls Tryz.prog 95 #[kv x, kv y] w fun e w' => e = .returned (kv (x + y)) ∧ Ext w w' := by
  have hx := klt x
  have hy := klt y
  refine calls_W Tryz.func95 rfl Tryz.ntmps95 rfl ?_
  (refine W_seq ?_; refine W_region ?_; refine Ls (X_assign (v := .int _ _) rfl) ?_; refine L_nil ?_; refine tn ?_; refine W_seq ?_; refine W_region ?_; refine Ls (X_move (v := .int _ _) rfl) ?_; refine Ls (X_move (v := .int _ _) rfl) ?_)
  have h := add64 x.val y.val w
  obtain ⟨s, hs⟩ : ∃ s, s = (x.val + y.val) % 18446744073709551616 := ⟨_, rfl⟩
  obtain ⟨c, hc⟩ : ∃ c, c = (x.val + y.val) / 18446744073709551616 := ⟨_, rfl⟩
  rw [← hs, ← hc] at h
  refine Ls (X_ext (vl := [kv x, kv y, .int .u64 0]) rfl h) ?_
  have e0 : (x + y).val = (x.val + y.val) % 18446744069414584321 := rfl
  by_cases h0 : c = 0
  · subst h0
    by_cases h1 : s < 18446744069414584321
    · (refine Ls (X_move (v := .tuple _) rfl) ?_; refine Ls (X_extract rfl rfl) ?_; refine Ls (X_extract rfl rfl) ?_; refine Ls (X_assign (v := .int _ _) rfl) ?_; refine Ls (X_assign (v := .int _ _) rfl) ?_; refine L_nil ?_; refine tn ?_; refine W_seq ?_; refine W_seq ?_; refine W_region ?_; refine Ls (X_move (v := .int _ _) rfl) ?_; refine Ls (X_gtrF rfl rfl (by omega)) ?_; refine Ls (X_move (v := .bool _) rfl) ?_; refine Lg2 rfl rfl rfl (X_move (v := .int _ _) rfl) ?_; refine Lg2 rfl rfl rfl (X_geqF rfl rfl (by omega)) ?_; refine Ls (X_pickF (v := .bool _) rfl rfl) ?_; refine L_nil ?_; refine tn ?_; refine W_condF rfl ?_; refine W_skip ?_; refine tn ?_; refine W_seq ?_; refine W_region ?_; refine Ls (X_move (v := .int _ _) rfl) ?_; refine Ls (X_assign (v := .int _ _) rfl) ?_; refine L_nil ?_; refine tn ?_; refine W_ret ?_)
      refine endQ_ret1 rfl rfl (v := .int _ _) rfl ⟨?_, Ext.refl w⟩
      rw [show s = (x + y).val by omega]
    · (refine Ls (X_move (v := .tuple _) rfl) ?_; refine Ls (X_extract rfl rfl) ?_; refine Ls (X_extract rfl rfl) ?_; refine Ls (X_assign (v := .int _ _) rfl) ?_; refine Ls (X_assign (v := .int _ _) rfl) ?_; refine L_nil ?_; refine tn ?_; refine W_seq ?_; refine W_seq ?_; refine W_region ?_; refine Ls (X_move (v := .int _ _) rfl) ?_; refine Ls (X_gtrF rfl rfl (by omega)) ?_; refine Ls (X_move (v := .bool _) rfl) ?_; refine Lg2 rfl rfl rfl (X_move (v := .int _ _) rfl) ?_; refine Lg2 rfl rfl rfl (X_geqT rfl rfl (by omega)) ?_; refine Ls (X_pickF (v := .bool _) rfl rfl) ?_; refine L_nil ?_; refine tn ?_; refine W_condT rfl ?_; refine W_region ?_; refine Ls (X_move (v := .int _ _) rfl) ?_; refine Ls (X_sub rfl rfl) ?_; refine Ls (X_assign (v := .int _ _) rfl) ?_; refine L_nil ?_; refine tn ?_; refine W_seq ?_; refine W_region ?_; refine Ls (X_move (v := .int _ _) rfl) ?_; refine Ls (X_assign (v := .int _ _) rfl) ?_; refine L_nil ?_; refine tn ?_; refine W_ret ?_)
      refine endQ_ret1 rfl rfl (v := .int _ _) rfl ⟨?_, Ext.refl w⟩
      rw [show (s : Int) - 18446744069414584321 = (((x + y).val : Nat) : Int) by omega, u64_nat, Nat.mod_eq_of_lt (by omega)]
  · obtain rfl : c = 1 := by omega
    (refine Ls (X_move (v := .tuple _) rfl) ?_; refine Ls (X_extract rfl rfl) ?_; refine Ls (X_extract rfl rfl) ?_; refine Ls (X_assign (v := .int _ _) rfl) ?_; refine Ls (X_assign (v := .int _ _) rfl) ?_; refine L_nil ?_; refine tn ?_; refine W_seq ?_; refine W_seq ?_; refine W_region ?_; refine Ls (X_move (v := .int _ _) rfl) ?_; refine Ls (X_gtrT rfl rfl (by omega)) ?_; refine Ls (X_move (v := .bool _) rfl) ?_; refine Lo2 rfl rfl rfl rfl ?_; refine Lo2 rfl rfl rfl rfl ?_; refine Ls (X_pickT (v := .bool _) rfl rfl) ?_; refine L_nil ?_; refine tn ?_; refine W_condT rfl ?_; refine W_region ?_; refine Ls (X_move (v := .int _ _) rfl) ?_; refine Ls (X_sub rfl rfl) ?_; refine Ls (X_assign (v := .int _ _) rfl) ?_; refine L_nil ?_; refine tn ?_; refine W_seq ?_; refine W_region ?_; refine Ls (X_move (v := .int _ _) rfl) ?_; refine Ls (X_assign (v := .int _ _) rfl) ?_; refine L_nil ?_; refine tn ?_; refine W_ret ?_)
    refine endQ_ret1 rfl rfl (v := .int _ _) rfl ⟨?_, Ext.refl w⟩
    have e : IntKind.u64.wrap ((s : Int) - 18446744069414584321) = (((x + y).val : Nat) : Int) := by rw [IntKind.wrap_u64]; omega
    rw [e]
theorem gsub (x y : Fd.K) (w : World) :
    Calls Tryz.prog 187 #[kv x, kv y] w fun e w' => e = .returned (kv (x - y)) ∧ Ext w w' := by
  have hx := klt x
  have hy := klt y
  refine calls_W Tryz.func187 rfl Tryz.ntmps187 rfl ?_
  (refine W_seq ?_; refine W_region ?_; refine Ls (X_assign (v := .int _ _) rfl) ?_; refine L_nil ?_; refine tn ?_; refine W_seq ?_; refine W_region ?_; refine Ls (X_move (v := .int _ _) rfl) ?_; refine Ls (X_move (v := .int _ _) rfl) ?_)
  have h := sub64 x.val y.val w
  obtain ⟨s, hs⟩ : ∃ s, s = (x.val + 18446744073709551616 - y.val) % 18446744073709551616 := ⟨_, rfl⟩
  have e0 : (x - y).val = (18446744069414584321 - y.val + x.val) % 18446744069414584321 := rfl
  by_cases hc : x.val < y.val
  · rw [← hs, if_pos hc] at h
    refine Ls (X_ext (vl := [kv x, kv y, .int .u64 0]) rfl h) ?_
    (refine Ls (X_move (v := .tuple _) rfl) ?_; refine Ls (X_extract rfl rfl) ?_; refine Ls (X_extract rfl rfl) ?_; refine Ls (X_assign (v := .int _ _) rfl) ?_; refine Ls (X_assign (v := .int _ _) rfl) ?_; refine L_nil ?_; refine tn ?_; refine W_seq ?_; refine W_seq ?_; refine W_region ?_; refine Ls (X_move (v := .int _ _) rfl) ?_; refine Ls (X_gtrT rfl rfl (by omega)) ?_; refine L_nil ?_; refine tn ?_; refine W_condT rfl ?_; refine W_region ?_; refine Ls (X_move (v := .int _ _) rfl) ?_; refine Ls (X_add rfl rfl) ?_; refine Ls (X_assign (v := .int _ _) rfl) ?_; refine L_nil ?_; refine tn ?_; refine W_seq ?_; refine W_region ?_; refine Ls (X_move (v := .int _ _) rfl) ?_; refine Ls (X_assign (v := .int _ _) rfl) ?_; refine L_nil ?_; refine tn ?_; refine W_ret ?_)
    refine endQ_ret1 rfl rfl (v := .int _ _) rfl ⟨?_, Ext.refl w⟩
    have e : IntKind.u64.wrap ((s : Int) + 18446744069414584321) = (((x - y).val : Nat) : Int) := by rw [IntKind.wrap_u64]; omega
    rw [e]
  · rw [← hs, if_neg hc] at h
    refine Ls (X_ext (vl := [kv x, kv y, .int .u64 0]) rfl h) ?_
    (refine Ls (X_move (v := .tuple _) rfl) ?_; refine Ls (X_extract rfl rfl) ?_; refine Ls (X_extract rfl rfl) ?_; refine Ls (X_assign (v := .int _ _) rfl) ?_; refine Ls (X_assign (v := .int _ _) rfl) ?_; refine L_nil ?_; refine tn ?_; refine W_seq ?_; refine W_seq ?_; refine W_region ?_; refine Ls (X_move (v := .int _ _) rfl) ?_; refine Ls (X_gtrF rfl rfl (by omega)) ?_; refine L_nil ?_; refine tn ?_; refine W_condF rfl ?_; refine W_skip ?_; refine tn ?_; refine W_seq ?_; refine W_region ?_; refine Ls (X_move (v := .int _ _) rfl) ?_; refine Ls (X_assign (v := .int _ _) rfl) ?_; refine L_nil ?_; refine tn ?_; refine W_ret ?_)
    refine endQ_ret1 rfl rfl (v := .int _ _) rfl ⟨?_, Ext.refl w⟩
    rw [show s = (x - y).val by omega]
/-- the product, from its halves -/
theorem red_eq (x y : Fd.K) {hi lo : Nat} (hhi : hi = x.val * y.val / 18446744073709551616) (hlo : lo = x.val * y.val % 18446744073709551616) :
    Fd.k lo - Fd.k (hi / 4294967296) + Fd.k (hi % 4294967296 * 4294967295) = x * y := by
  have hx := klt x
  have hy := klt y
  have hb : x.val * y.val < 18446744069414584321 * 18446744069414584321 := Nat.mul_lt_mul'' hx hy
  apply Fd.K.ext
  rw [Fd.add_val, Fd.sub_val, Fd.mul_val, Fd.k_val, Fd.k_val, Fd.k_val]
  generalize x.val * y.val = N at *
  show ((18446744069414584321 - hi / 4294967296 % 18446744069414584321 + lo % 18446744069414584321) % 18446744069414584321 + hi % 4294967296 * 4294967295 % 18446744069414584321) % 18446744069414584321 = N % 18446744069414584321
  omega
theorem gmul (x y : Fd.K) (w : World) :
    Calls Tryz.prog 183 #[kv x, kv y] w fun e w' => e = .returned (kv (x * y)) ∧ Ext w w' := by
  have hx := klt x
  have hy := klt y
  refine calls_W Tryz.func183 rfl Tryz.ntmps183 rfl ?_
  (refine W_seq ?_; refine W_region ?_; refine Ls (X_assign (v := .int _ _) rfl) ?_; refine L_nil ?_; refine tn ?_; refine W_seq ?_; refine W_region ?_; refine Ls (X_move (v := .int _ _) rfl) ?_; refine Ls (X_move (v := .int _ _) rfl) ?_)
  have h := Tryz.bits_Mul64 x.val y.val (by omega) (by omega) w
  obtain ⟨hi, hhi⟩ : ∃ hi, hi = x.val * y.val / 18446744073709551616 := ⟨_, rfl⟩
  obtain ⟨lo, hlo⟩ : ∃ lo, lo = x.val * y.val % 18446744073709551616 := ⟨_, rfl⟩
  have hb : x.val * y.val < 18446744069414584321 * 18446744069414584321 := Nat.mul_lt_mul'' hx hy
  have hh : hi < 18446744069414584321 := by omega
  rw [← hhi, ← hlo] at h
  refine L_fv (vl := [kv x, kv y]) rfl (h.mono fun _ _ q => ⟨q.1, q.2 ▸ Ext.refl _⟩) fun w1 E1 => ?_
  (refine Ls (X_move (v := .tuple _) rfl) ?_; refine Ls (X_extract rfl rfl) ?_; refine Ls (X_extract rfl rfl) ?_; refine Ls (X_assign (v := .int _ _) rfl) ?_; refine Ls (X_assign (v := .int _ _) rfl) ?_; refine L_nil ?_; refine tn ?_; refine W_seq ?_; refine W_region ?_; refine Ls (X_move (v := .int _ _) rfl) ?_)
  refine L_fv rfl (greduce lo (by omega) w1) ?_
  intro w2 E2
  (refine Ls (X_move (v := .int _ _) rfl) ?_; refine Ls (X_shr rfl rfl (by omega)) ?_)
  have e1 : (hi : Int).fdiv (2 ^ (min (32 : Int).toNat IntKind.u64.bits)) = (((Fd.k (hi / 4294967296)).val : Nat) : Int) := by
    rw [show IntKind.u64.bits = 64 from rfl, shr_nat hi 32 (by omega), Fd.k_of (by unfold Fd.pr; omega)]; rfl
  rw [e1]
  refine L_fv rfl (gsub (Fd.k lo) (Fd.k (hi / 4294967296)) w2) ?_
  intro w3 E3
  (refine Ls (X_assign (v := .int _ _) rfl) ?_; refine L_nil ?_; refine tn ?_; refine W_seq ?_; refine W_region ?_; refine Ls (X_move (v := .int _ _) rfl) ?_; refine Ls (X_move (v := .int _ _) rfl) ?_; refine Ls (X_and rfl rfl) ?_; refine Ls (X_mul rfl rfl) ?_)
  obtain ⟨m, hm⟩ : ∃ m, m = hi % 4294967296 * 4294967295 := ⟨_, rfl⟩
  have e2 : IntKind.u64.wrap (bits .and .u64 (hi : Int) 4294967295 * 4294967295) = (m : Int) := by
    rw [Mul64.maskN hi (by omega), IntKind.wrap_u64]; omega
  rw [e2]
  refine L_fv rfl (greduce m (by omega) w3) ?_
  intro w4 E4
  skip
  refine L_fv rfl (gadd (Fd.k lo - Fd.k (hi / 4294967296)) (Fd.k m) w4) ?_
  intro w5 E5
  (refine Ls (X_assign (v := .int _ _) rfl) ?_; refine L_nil ?_; refine tn ?_; refine W_ret ?_)
  refine endQ_ret1 rfl rfl (v := .int _ _) rfl ⟨?_, E1.trans (E2.trans (E3.trans (E4.trans E5)))⟩
  rw [hm, red_eq x y hhi hlo]
end Go.Proofs.YtpohjepbmgeplaaGreatDoor

/- The base field: the reference's. -/
namespace Go.Proofs.YtpohjepbmgeplaaGreatDoor
open Go.RowKit Go.Proofs.K
open _root_.Fd (pr)

theorem rreduce (x : Nat) (hx : x < 18446744073709551616) (w : World) :
    Calls Tryz.prog 36 #[.int .u64 (x : Nat)] w fun e w' => e = .returned (kv (Fd.k x)) ∧ Ext w w' := by
  refine calls_W Tryz.func36 rfl Tryz.ntmps36 rfl ?_
  (refine W_seq ?_; refine W_region ?_; refine Ls (X_assign (v := .int _ _) rfl) ?_; refine L_nil ?_; refine tn ?_; refine W_seq ?_; refine W_region ?_; refine Ls (X_move (v := .int _ _) rfl) ?_; refine Ls (X_remi rfl rfl (by omega)) ?_; refine Ls (X_assign (v := .int _ _) rfl) ?_; refine L_nil ?_; refine tn ?_; refine W_ret ?_)
  refine endQ_ret1 rfl rfl (v := .int _ _) rfl ?_
  have e : (x : Int) % 18446744069414584321 = (((Fd.k x).val : Nat) : Int) := by rw [Fd.k_val]; unfold Fd.pr; omega
  rw [e]
  exact ⟨rfl, Ext.refl w⟩
theorem radd (x y : Fd.K) (w : World) :
    Calls Tryz.prog 37 #[kv x, kv y] w fun e w' => e = .returned (kv (x + y)) ∧ Ext w w' := by
  have hx := klt x
  have hy := klt y
  have e0 : (x + y).val = (x.val + y.val) % 18446744069414584321 := rfl
  refine calls_W Tryz.func37 rfl Tryz.ntmps37 rfl ?_
  have e1 : IntKind.u64.wrap (18446744069414584321 - (y.val : Int)) = ((18446744069414584321 - y.val : Nat) : Int) := by rw [IntKind.wrap_u64]; omega
  (refine W_seq ?_; refine W_region ?_; refine Ls (X_assign (v := .int _ _) rfl) ?_; refine L_nil ?_; refine tn ?_; refine W_seq ?_; refine W_seq ?_; refine W_region ?_; refine Ls (X_move (v := .int _ _) rfl) ?_; refine Ls (X_move (v := .int _ _) rfl) ?_; refine Ls (X_sub rfl rfl) ?_; refine Ls (X_geq rfl rfl) ?_; refine L_nil ?_; refine tn ?_)
  rw [e1]
  refine W_condp rfl (fun h => ?_) (fun h => ?_)
  · (refine W_seq ?_; refine W_region ?_; refine Ls (X_move (v := .int _ _) rfl) ?_; refine Ls (X_move (v := .int _ _) rfl) ?_; refine Ls (X_sub rfl rfl) ?_; refine Ls (X_sub rfl rfl) ?_; refine Ls (X_assign (v := .int _ _) rfl) ?_; refine L_nil ?_; refine tn ?_; refine W_ret ?_; refine tr ?_)
    refine endQ_ret1 rfl rfl (v := .int _ _) rfl ⟨?_, Ext.refl w⟩
    have e : IntKind.u64.wrap ((x.val : Int) - IntKind.u64.wrap (18446744069414584321 - (y.val : Int))) = (((x + y).val : Nat) : Int) := by rw [e1, IntKind.wrap_u64]; omega
    rw [e]
  · (refine W_skip ?_; refine tn ?_; refine W_seq ?_; refine W_region ?_; refine Ls (X_move (v := .int _ _) rfl) ?_; refine Ls (X_move (v := .int _ _) rfl) ?_; refine Ls (X_add rfl rfl) ?_; refine Ls (X_assign (v := .int _ _) rfl) ?_; refine L_nil ?_; refine tn ?_; refine W_ret ?_)
    refine endQ_ret1 rfl rfl (v := .int _ _) rfl ⟨?_, Ext.refl w⟩
    have e : IntKind.u64.wrap ((x.val : Int) + (y.val : Int)) = (((x + y).val : Nat) : Int) := by rw [IntKind.wrap_u64]; omega
    rw [e]
theorem rneg (x : Fd.K) (w : World) :
    Calls Tryz.prog 46 #[kv x] w fun e w' => e = .returned (kv (-x)) ∧ Ext w w' := by
  have hx := klt x
  have e0 : (-x).val = (18446744069414584321 - x.val) % 18446744069414584321 := rfl
  refine calls_W Tryz.func46 rfl Tryz.ntmps46 rfl ?_
  by_cases h : x.val = 0
  · (refine W_seq ?_; refine W_region ?_; refine Ls (X_assign (v := .int _ _) rfl) ?_; refine L_nil ?_; refine tn ?_; refine W_seq ?_; refine W_seq ?_; refine W_region ?_; refine Ls (X_move (v := .int _ _) rfl) ?_; refine Ls (X_eqlT rfl rfl (by omega)) ?_; refine L_nil ?_; refine tn ?_; refine W_condT rfl ?_; refine W_seq ?_; refine W_region ?_; refine Ls (X_assign (v := .int _ _) rfl) ?_; refine L_nil ?_; refine tn ?_; refine W_ret ?_; refine tr ?_)
    refine endQ_ret1 rfl rfl (v := .int _ _) rfl ⟨?_, Ext.refl w⟩
    rw [show (0 : Int) = (((-x).val : Nat) : Int) by omega]
  · (refine W_seq ?_; refine W_region ?_; refine Ls (X_assign (v := .int _ _) rfl) ?_; refine L_nil ?_; refine tn ?_; refine W_seq ?_; refine W_seq ?_; refine W_region ?_; refine Ls (X_move (v := .int _ _) rfl) ?_; refine Ls (X_eqlF rfl rfl (by omega)) ?_; refine L_nil ?_; refine tn ?_; refine W_condF rfl ?_; refine W_skip ?_; refine tn ?_; refine W_seq ?_; refine W_region ?_; refine Ls (X_move (v := .int _ _) rfl) ?_; refine Ls (X_sub rfl rfl) ?_; refine Ls (X_assign (v := .int _ _) rfl) ?_; refine L_nil ?_; refine tn ?_; refine W_ret ?_)
    refine endQ_ret1 rfl rfl (v := .int _ _) rfl ⟨?_, Ext.refl w⟩
    have e : IntKind.u64.wrap (18446744069414584321 - (x.val : Int)) = (((-x).val : Nat) : Int) := by rw [IntKind.wrap_u64]; omega
    rw [e]
/-- 2^32 -/
def p32 : Fd.K := Fd.k 4294967296
theorem shift_eq (x : Fd.K) : Fd.k (x.val % 4294967296 * 4294967296) + Fd.k (x.val / 4294967296 * 4294967295) = x * p32 := by
  have hx := klt x
  apply Fd.K.ext
  rw [Fd.add_val, Fd.mul_val, Fd.k_val, Fd.k_val]
  show (x.val % 4294967296 * 4294967296 % 18446744069414584321 + x.val / 4294967296 * 4294967295 % 18446744069414584321) % 18446744069414584321 = x.val * (4294967296 % 18446744069414584321) % 18446744069414584321
  omega
theorem rshift (x : Fd.K) (w : World) :
    Calls Tryz.prog 93 #[kv x] w fun e w' => e = .returned (kv (x * p32)) ∧ Ext w w' := by
  have hx := klt x
  refine calls_W Tryz.func93 rfl Tryz.ntmps93 rfl ?_
  obtain ⟨l, hl⟩ : ∃ l, l = x.val % 4294967296 * 4294967296 := ⟨_, rfl⟩
  obtain ⟨m, hm⟩ : ∃ m, m = x.val / 4294967296 * 4294967295 := ⟨_, rfl⟩
  have e1 : IntKind.u64.wrap ((x.val : Int) % 4294967296 * 4294967296) = (l : Int) := by rw [IntKind.wrap_u64]; omega
  have e2 : IntKind.u64.wrap ((x.val : Int) / 4294967296 * 4294967295) = (m : Int) := by rw [IntKind.wrap_u64]; omega
  (refine W_seq ?_; refine W_region ?_; refine Ls (X_assign (v := .int _ _) rfl) ?_; refine L_nil ?_; refine tn ?_; refine W_seq ?_; refine W_region ?_; refine Ls (X_move (v := .int _ _) rfl) ?_; refine Ls (X_quou rfl rfl (by omega)) ?_; refine Ls (X_move (v := .int _ _) rfl) ?_; refine Ls (X_remi rfl rfl (by omega)) ?_; refine Ls (X_assign (v := .int _ _) rfl) ?_; refine Ls (X_assign (v := .int _ _) rfl) ?_; refine L_nil ?_; refine tn ?_; refine W_seq ?_; refine W_region ?_; refine Ls (X_move (v := .int _ _) rfl) ?_; refine Ls (X_mul rfl rfl) ?_)
  rw [e1]
  refine L_fv rfl (rreduce l (by omega) w) ?_
  intro w2 E2
  (refine Ls (X_move (v := .int _ _) rfl) ?_; refine Ls (X_mul rfl rfl) ?_)
  rw [e2]
  refine L_fv rfl (rreduce m (by omega) w2) ?_
  intro w3 E3
  skip
  refine L_fv rfl (radd (Fd.k l) (Fd.k m) w3) ?_
  intro w4 E4
  (refine Ls (X_assign (v := .int _ _) rfl) ?_; refine L_nil ?_; refine tn ?_; refine W_ret ?_)
  refine endQ_ret1 rfl rfl (v := .int _ _) rfl ⟨?_, E2.trans (E3.trans E4)⟩
  rw [hl, hm, shift_eq x]
theorem half_eq (x : Fd.K) (b : Nat) : Fd.k (x.val % 4294967296 * b) + Fd.k (x.val / 4294967296 * b) * p32 = x * Fd.k b := by
  unfold p32
  rw [← Fd.k_mul, ← Fd.k_add]
  conv => rhs; rw [← Fd.val_k x, ← Fd.k_mul]
  congr 1
  rw [Nat.mul_right_comm, ← Nat.add_mul]
  congr 1
  omega
theorem rhalf (x : Fd.K) (b : Nat) (hb : b < 4294967296) (w : World) :
    Calls Tryz.prog 92 #[kv x, .int .u64 (b : Nat)] w fun e w' => e = .returned (kv (x * Fd.k b)) ∧ Ext w w' := by
  have hx := klt x
  refine calls_W Tryz.func92 rfl Tryz.ntmps92 rfl ?_
  have b1 : x.val % 4294967296 * b ≤ 4294967295 * 4294967295 := Nat.mul_le_mul (by omega) (by omega)
  have b2 : x.val / 4294967296 * b ≤ 4294967295 * 4294967295 := Nat.mul_le_mul (by omega) (by omega)
  obtain ⟨l, hl⟩ : ∃ l, l = x.val % 4294967296 * b := ⟨_, rfl⟩
  obtain ⟨m, hm⟩ : ∃ m, m = x.val / 4294967296 * b := ⟨_, rfl⟩
  have e1 : IntKind.u64.wrap ((x.val : Int) % 4294967296 * (b : Int)) = (l : Int) := by
    rw [show (x.val : Int) % 4294967296 * (b : Int) = (l : Int) by rw [hl]; simp, IntKind.wrap_u64]; omega
  have e2 : IntKind.u64.wrap ((x.val : Int) / 4294967296 * (b : Int)) = (m : Int) := by
    rw [show (x.val : Int) / 4294967296 * (b : Int) = (m : Int) by rw [hm]; simp, IntKind.wrap_u64]; omega
  (refine W_seq ?_; refine W_region ?_; refine Ls (X_assign (v := .int _ _) rfl) ?_; refine L_nil ?_; refine tn ?_; refine W_seq ?_; refine W_region ?_; refine Ls (X_move (v := .int _ _) rfl) ?_; refine Ls (X_remi rfl rfl (by omega)) ?_; refine Ls (X_move (v := .int _ _) rfl) ?_; refine Ls (X_mul rfl rfl) ?_)
  rw [e1]
  refine L_fv rfl (rreduce l (by omega) w) ?_
  intro w2 E2
  (refine Ls (X_move (v := .int _ _) rfl) ?_; refine Ls (X_quou rfl rfl (by omega)) ?_; refine Ls (X_move (v := .int _ _) rfl) ?_; refine Ls (X_mul rfl rfl) ?_)
  rw [e2]
  refine L_fv rfl (rreduce m (by omega) w2) ?_
  intro w3 E3
  skip
  refine L_fv rfl (rshift (Fd.k m) w3) ?_
  intro w4 E4
  skip
  refine L_fv rfl (radd (Fd.k l) (Fd.k m * p32) w4) ?_
  intro w5 E5
  (refine Ls (X_assign (v := .int _ _) rfl) ?_; refine L_nil ?_; refine tn ?_; refine W_ret ?_)
  refine endQ_ret1 rfl rfl (v := .int _ _) rfl ⟨?_, E2.trans (E3.trans (E4.trans E5))⟩
  rw [hl, hm, half_eq x]
theorem rmul (x y : Fd.K) (w : World) :
    Calls Tryz.prog 38 #[kv x, kv y] w fun e w' => e = .returned (kv (x * y)) ∧ Ext w w' := by
  have hx := klt x
  have hy := klt y
  refine calls_W Tryz.func38 rfl Tryz.ntmps38 rfl ?_
  have e1 : (y.val : Int) % 4294967296 = ((y.val % 4294967296 : Nat) : Int) := by omega
  have e2 : (y.val : Int) / 4294967296 = ((y.val / 4294967296 : Nat) : Int) := by omega
  (refine W_seq ?_; refine W_region ?_; refine Ls (X_assign (v := .int _ _) rfl) ?_; refine L_nil ?_; refine tn ?_; refine W_seq ?_; refine W_region ?_; refine Ls (X_move (v := .int _ _) rfl) ?_; refine Ls (X_move (v := .int _ _) rfl) ?_; refine Ls (X_remi rfl rfl (by omega)) ?_)
  rw [e1]
  refine L_fv rfl (rhalf x (y.val % 4294967296) (by omega) w) ?_
  intro w2 E2
  (refine Ls (X_move (v := .int _ _) rfl) ?_; refine Ls (X_move (v := .int _ _) rfl) ?_; refine Ls (X_quou rfl rfl (by omega)) ?_)
  rw [e2]
  refine L_fv rfl (rhalf x (y.val / 4294967296) (by omega) w2) ?_
  intro w3 E3
  skip
  refine L_fv rfl (rshift (x * Fd.k (y.val / 4294967296)) w3) ?_
  intro w4 E4
  skip
  refine L_fv rfl (radd (x * Fd.k (y.val % 4294967296)) (x * Fd.k (y.val / 4294967296) * p32) w4) ?_
  intro w5 E5
  (refine Ls (X_assign (v := .int _ _) rfl) ?_; refine L_nil ?_; refine tn ?_; refine W_ret ?_)
  refine endQ_ret1 rfl rfl (v := .int _ _) rfl ⟨?_, E2.trans (E3.trans (E4.trans E5))⟩
  have e3 : Fd.k (y.val % 4294967296) + Fd.k (y.val / 4294967296) * p32 = y := by
    unfold p32
    rw [← Fd.k_mul, ← Fd.k_add, show y.val % 4294967296 + y.val / 4294967296 * 4294967296 = y.val by omega, Fd.val_k]
  rw [show x * Fd.k (y.val % 4294967296) + x * Fd.k (y.val / 4294967296) * p32 = x * (Fd.k (y.val % 4294967296) + Fd.k (y.val / 4294967296) * p32) by grind, e3]
end Go.Proofs.YtpohjepbmgeplaaGreatDoor

namespace Go.Proofs.YtpohjepbmgeplaaGreatDoor
open Go.RowKit Go.Proofs.K

/- Digests and field pairs as values: built, compared. -/
def exC (a b : Nat) : List Value := [.int .u64 (a : Nat), .int .u64 (b : Nat)]
theorem exC_cell {a b : Nat} : ∀ v ∈ exC a b, v.oneCell' = true := by
  intro v hv
  simp only [exC, List.mem_cons, List.not_mem_nil, or_false] at hv
  rcases hv with rfl | rfl <;> rfl

instance : TEq Tryz.prog 43 := ⟨by kernel_rfl, by kernel_rfl, .inr ⟨_, _, Tryz.underlying43⟩⟩
instance : TEq Tryz.prog 31 := ⟨by kernel_rfl, by kernel_rfl, .inl ⟨_, Tryz.underlying31⟩⟩
def litsD (l : List Nat) : List Lit := l.map fun x : Nat => .int .u8 (x : Int)
theorem kl_dig {l : List Nat} (h : l.length = 32) (h8 : ∀ x ∈ l, x < 256) : (Tryz.prog).keyLits 2 43 (ints .u8 l) = some (litsD l) :=
  Go.Proofs.K.keyLits_arr 0 (by kernel_rfl) (by kernel_rfl) h fun x hx => wf_u8 (h8 x hx)
theorem kl_ex {a b : Nat} (ha : a < 18446744073709551616) (hb : b < 18446744073709551616) : (Tryz.prog).keyLits 3 31 (exC a b) = some ([.int .u64 (a : Nat)] ++ [.int .u64 (b : Nat)]) := by
  refine keyLits_two (D := 2) Tryz.underlying31 (by decide) (by decide) (by kernel_rfl) ?_ ?_
  · rw [show (Tryz.prog).cellsOf 29 = 1 by kernel_rfl]
    exact Go.Proofs.K.keyLits_int 1 (wf_u64 ha)
  · rw [show (Tryz.prog).cellsOf 29 = 1 by kernel_rfl]
    exact Go.Proofs.K.keyLits_int 1 (wf_u64 hb)
theorem litsD_inj {a b : List Nat} : litsD a = litsD b ↔ a = b := lits_inj
theorem lits_ex {a b c d : Nat} : [Lit.int .u64 (a : Nat)] ++ [Lit.int .u64 (b : Nat)] = [Lit.int .u64 (c : Nat)] ++ [Lit.int .u64 (d : Nat)] ↔ a = c ∧ b = d := by
  constructor
  · intro h
    simp at h; omega
  · rintro ⟨rfl, rfl⟩; rfl
section
variable {n : NN} {f : Fr} {w : World} {d : Option Tmp} {t : TypeId} {pos : String} {af : Array Edge} {g : Option (Nat × Bool)} {x y : Operand}
theorem X_neqD {a b : List Nat} (ha : a.length = 32) (hb : b.length = 32) (ha8 : ∀ x ∈ a, x < 256) (hb8 : ∀ x ∈ b, x < 256) (hx : ev n f x = .agg (ints .u8 a).toArray) (hy : ev n f y = .agg (ints .u8 b).toArray) :
    X Tryz.prog n ⟨d, .binOp .neq 43 x y 43, t, pos, af, g⟩ f w = .ok (.value (.bool (decide (a ≠ b)))) w :=
  X_neqK hx hy (by rw [ints_len, ha]; kernel_rfl) (by rw [ints_len, hb]; kernel_rfl) (kl_dig ha ha8) (kl_dig hb hb8) (decide_eq_true_iff.trans (not_congr litsD_inj.symm))
theorem X_neqEx {a b a' b' : Nat} (ha : a < 18446744073709551616) (hb : b < 18446744073709551616) (ha' : a' < 18446744073709551616) (hb' : b' < 18446744073709551616) (hx : ev n f x = .agg (exC a b).toArray) (hy : ev n f y = .agg (exC a' b').toArray) :
    X Tryz.prog n ⟨d, .binOp .neq 31 x y 31, t, pos, af, g⟩ f w = .ok (.value (.bool (decide (¬ (a = a' ∧ b = b'))))) w :=
  X_neqK hx hy (by kernel_rfl) (by kernel_rfl) (kl_ex ha hb) (kl_ex ha' hb') (decide_eq_true_iff.trans (not_congr lits_ex.symm))
end
section
variable {n : NN} {f : Fr} {w : World} {d : Option Tmp} {t : TypeId} {pos : String} {af : Array Edge} {g : Option (Nat × Bool)} {x y : Operand}
theorem X_mkEx {a b : Nat} (hx : ev n f x = .int .u64 (a : Nat)) (hy : ev n f y = .int .u64 (b : Nat)) :
    X Tryz.prog n ⟨d, .build 31 #[(0, x), (1, y)], t, pos, af, g⟩ f w = .ok (.value (.agg (exC a b).toArray)) w := by
  have := X_build (P := Tryz.prog) (ty := 31) (n := n) (f := f) (w := w) (d := d) (t := t) (pos := pos) (af := af) (g := g) (Parts.cons (i := 0) (c := [.int .u64 (a : Nat)]) (z := [.int .u64 0]) hx rfl rfl rfl (Parts.cons (i := 1) (c := [.int .u64 (b : Nat)]) (z := [.int .u64 0]) hy rfl rfl rfl (Parts.nil _)))
  simpa [exC] using this
end
end Go.Proofs.YtpohjepbmgeplaaGreatDoor

/- The extension: the reference's. -/
namespace Go.Proofs.YtpohjepbmgeplaaGreatDoor
open Go.RowKit Go.Proofs.K
open _root_.Fd (pr)

/-- an element of the extension, in the machine -/
@[reducible] def xc (x : Fd.E) : List Value := exC x.a.val x.b.val
theorem xc_cell (x : Fd.E) : ∀ v ∈ xc x, v.oneCell' = true := exC_cell
theorem r2add (x y : Fd.E) (w : World) :
    Calls Tryz.prog 30 #[.agg (xc x).toArray, .agg (xc y).toArray] w fun e w' => e = .returned (.agg (xc (x + y)).toArray) ∧ Ext w w' := by
  refine calls_W Tryz.func30 rfl Tryz.ntmps30 rfl ?_
  (refine W_seq ?_; refine W_region ?_)
  refine L_box rfl ?_
  intro g1 w1 B1 hg1 E1 hs1
  refine L_box rfl ?_
  intro g2 w2 B2 hg2 E2 hs2
  refine L_alloc ?_
  intro g3 w3 B3 hg3 E3 hs3
  have Ea := E1.trans (E2.trans E3)
  have C1 := B1.ext (E2.trans E3)
  have C2 := B2.ext E3
  (refine L_nil ?_; refine tn ?_; refine W_seq ?_)
  apply W_dagE 9 (by kernel_rfl)
  (apply DW_x (fun r w hA hH => (X_fld rfl).trans rfl); apply DW_x (fun r w hA hH => (X_ld rfl (C1.ext hA) rfl).trans rfl); apply DW_x (fun r w hA hH => (X_fld rfl).trans rfl); apply DW_x (fun r w hA hH => (X_ld rfl (C2.ext hA) rfl).trans rfl))
  ((with_reducible apply DW_fn); (exact fun _ => rfl); (exact fun _ => rfl); (exact fun r w hA hH => radd x.a y.a w))
  (apply DW_x (fun r w hA hH => (X_fld rfl).trans rfl); apply DW_x (fun r w hA hH => (X_ld rfl (C1.ext hA) rfl).trans rfl); apply DW_x (fun r w hA hH => (X_fld rfl).trans rfl); apply DW_x (fun r w hA hH => (X_ld rfl (C2.ext hA) rfl).trans rfl))
  ((with_reducible exact D_end); (exact rfl); (repeat (first | exact .inr (.inr (fun _ _ => by with_reducible rfl)) | (refine And.intro ?_ ?_) | exact .inr (.inl rfl) | exact .inl (by decide +kernel) | exact trivial | exact .inr (.inr (fun _ _ => rfl)))); (try dsimp only [Nat.reduceAdd]))
  intro r w4 E4 H4
  refine L_fv rfl (radd x.b y.b w4) ?_
  intro w5 E5
  refine Ls (X_mkEx (a := (x + y).a.val) (b := (x + y).b.val) rfl rfl) ?_
  refine L_storeW rfl rfl rfl exC_cell (B3.ext (E4.trans E5)) rfl ?_
  intro w6 B6 hg6 _
  (refine L_nil ?_; refine tn ?_; refine W_ret ?_)
  refine endQ_res rfl rfl (Res.cellA inferInstance rfl (B6.range (fun j u h => by simpa using h)) rfl .nil) ?_
  exact ⟨rfl, (Ea.trans (E4.trans E5)).then hg6 (fun g h => by cases h; have := E1.size; have := E2.size; omega)⟩
set_option maxHeartbeats 1000000 in
theorem r2mul (x y : Fd.E) (w : World) :
    Calls Tryz.prog 88 #[.agg (xc x).toArray, .agg (xc y).toArray] w fun e w' => e = .returned (.agg (xc (x * y)).toArray) ∧ Ext w w' := by
  refine calls_W Tryz.func88 rfl Tryz.ntmps88 rfl ?_
  (refine W_seq ?_; refine W_region ?_)
  refine L_box rfl ?_
  intro g1 w1 B1 hg1 E1 hs1
  refine L_box rfl ?_
  intro g2 w2 B2 hg2 E2 hs2
  refine L_alloc ?_
  intro g3 w3 B3 hg3 E3 hs3
  have Ea := E1.trans (E2.trans E3)
  have C1 := B1.ext (E2.trans E3)
  have C2 := B2.ext E3
  (refine L_nil ?_; refine tn ?_; refine W_seq ?_)
  apply W_dagE 21 (by kernel_rfl)
  (apply DW_x (fun r w hA hH => (X_fld rfl).trans rfl); apply DW_x (fun r w hA hH => (X_ld rfl (C1.ext hA) rfl).trans rfl); apply DW_x (fun r w hA hH => (X_fld rfl).trans rfl); apply DW_x (fun r w hA hH => (X_ld rfl (C2.ext hA) rfl).trans rfl))
  ((with_reducible apply DW_fn); (exact fun _ => rfl); (exact fun _ => rfl); (exact fun r w hA hH => rmul x.a y.a w))
  (apply DW_x (fun r w hA hH => (X_fld rfl).trans rfl); apply DW_x (fun r w hA hH => (X_ld rfl (C1.ext hA) rfl).trans rfl); apply DW_x (fun r w hA hH => (X_fld rfl).trans rfl); apply DW_x (fun r w hA hH => (X_ld rfl (C2.ext hA) rfl).trans rfl))
  ((with_reducible apply DW_fn); (exact fun _ => rfl); (exact fun _ => rfl); (exact fun r w hA hH => rmul x.b y.b w))
  ((with_reducible apply DW_fn); (exact fun _ => rfl); (exact fun _ => rfl); (exact fun r w hA hH => rmul 7 (x.b * y.b) w))
  ((with_reducible apply DW_fn); (exact fun _ => rfl); (exact fun _ => rfl); (exact fun r w hA hH => radd (x.a * y.a) (7 * (x.b * y.b)) w))
  (apply DW_x (fun r w hA hH => (X_fld rfl).trans rfl); apply DW_x (fun r w hA hH => (X_ld rfl (C1.ext hA) rfl).trans rfl); apply DW_x (fun r w hA hH => (X_fld rfl).trans rfl); apply DW_x (fun r w hA hH => (X_ld rfl (C2.ext hA) rfl).trans rfl))
  ((with_reducible apply DW_fn); (exact fun _ => rfl); (exact fun _ => rfl); (exact fun r w hA hH => rmul x.a y.b w))
  (apply DW_x (fun r w hA hH => (X_fld rfl).trans rfl); apply DW_x (fun r w hA hH => (X_ld rfl (C1.ext hA) rfl).trans rfl); apply DW_x (fun r w hA hH => (X_fld rfl).trans rfl); apply DW_x (fun r w hA hH => (X_ld rfl (C2.ext hA) rfl).trans rfl))
  ((with_reducible exact D_end); (exact rfl); (repeat (first | exact .inr (.inr (fun _ _ => by with_reducible rfl)) | (refine And.intro ?_ ?_) | exact .inr (.inl rfl) | exact .inl (by decide +kernel) | exact trivial | exact .inr (.inr (fun _ _ => rfl)))); (try dsimp only [Nat.reduceAdd]))
  intro r w4 E4 H4
  refine L_fv rfl (rmul x.b y.a w4) ?_
  intro w5 E5
  refine L_fv rfl (radd (x.a * y.b) (x.b * y.a) w5) ?_
  intro w6 E6
  have E7 := E4.trans (E5.trans E6)
  refine Ls (X_mkEx (a := (x * y).a.val) (b := (x * y).b.val) rfl rfl) ?_
  refine L_storeW rfl rfl rfl exC_cell (B3.ext E7) rfl ?_
  intro wz Bz hgz _
  (refine L_nil ?_; refine tn ?_; refine W_ret ?_)
  refine endQ_res rfl rfl (Res.cellA inferInstance rfl (Bz.range (fun j u h => by simpa using h)) rfl .nil) ?_
  exact ⟨rfl, (Ea.trans E7).then hgz (fun g h => by cases h; have := E1.size; have := E2.size; omega)⟩
section
variable {n : NN} {f : Fr} {w : World} {d : Option Tmp} {t : TypeId} {pos : String} {af : Array Edge} {g : Option (Nat × Bool)} {x : Operand}
theorem X_mkEx1 {a : Nat} (hx : ev n f x = .int .u64 (a : Nat)) :
    X Tryz.prog n ⟨d, .build 31 #[(0, x)], t, pos, af, g⟩ f w = .ok (.value (.agg (exC a 0).toArray)) w := by
  have := X_build (P := Tryz.prog) (ty := 31) (n := n) (f := f) (w := w) (d := d) (t := t) (pos := pos) (af := af) (g := g) (Parts.cons (i := 0) (c := [.int .u64 (a : Nat)]) (z := [.int .u64 0]) hx rfl rfl rfl (Parts.nil _))
  simpa [exC] using this
theorem X_mkEx0 :
    X Tryz.prog n ⟨d, .build 31 #[], t, pos, af, g⟩ f w = .ok (.value (.agg (exC 0 0).toArray)) w := by
  have := X_build (P := Tryz.prog) (ty := 31) (n := n) (f := f) (w := w) (d := d) (t := t) (pos := pos) (af := af) (g := g) (Parts.nil _)
  simpa [exC] using this
end
theorem r2base (x : Fd.K) (w : World) :
    Calls Tryz.prog 76 #[kv x] w fun e w' => e = .returned (.agg (xc (Fd.E.of x)).toArray) ∧ Ext w w' := by
  refine calls_W Tryz.func76 rfl Tryz.ntmps76 rfl ?_
  (refine W_seq ?_; refine W_region ?_)
  refine L_alloc ?_
  intro g1 w1 B1 hg1 E1 hs1
  (refine L_nil ?_; refine tn ?_; refine W_seq ?_; refine W_region ?_; refine Ls (X_move (v := .int _ _) rfl) ?_)
  refine Ls (X_mkEx1 (a := x.val) rfl) ?_
  refine L_storeW rfl rfl rfl exC_cell (B1) rfl ?_
  intro wz Bz hgz _
  (refine L_nil ?_; refine tn ?_; refine W_ret ?_)
  refine endQ_res rfl rfl (Res.cellA inferInstance rfl (Bz.range (fun j u h => by simpa using h)) rfl .nil) ?_
  exact ⟨rfl, (E1).then hgz (fun g h => by cases h; omega)⟩
end Go.Proofs.YtpohjepbmgeplaaGreatDoor

/- The extension: the reference's, more. -/
namespace Go.Proofs.YtpohjepbmgeplaaGreatDoor
open Go.RowKit Go.Proofs.K
open _root_.Fd (pr)

theorem rint (x : Nat) (hx : x < 9223372036854775807) (w : World) :
    Calls Tryz.prog 98 #[.int .i64 (x : Nat)] w fun e w' => e = .returned (.int .u64 (x : Nat)) ∧ Ext w w' := by
  refine calls_W Tryz.func98 rfl Tryz.ntmps98 rfl ?_
  have e : IntKind.u64.wrap (x : Int) = (x : Int) := by rw [IntKind.wrap_u64]; omega
  (refine W_seq ?_; refine W_region ?_; refine Ls (X_assign (v := .int _ _) rfl) ?_; refine L_nil ?_; refine tn ?_; refine W_seq ?_; refine W_seq ?_; refine W_region ?_; refine Ls (X_move (v := .int _ _) rfl) ?_; refine Ls (X_geqT rfl rfl (by omega)) ?_; refine L_nil ?_; refine tn ?_; refine W_condT rfl ?_; refine W_seq ?_; refine W_region ?_; refine Ls (X_move (v := .int _ _) rfl) ?_; refine Ls (X_conv rfl) ?_; refine Ls (X_assign (v := .int _ _) rfl) ?_; refine L_nil ?_; refine tn ?_; refine W_ret ?_; refine tr ?_)
  rw [e]
  skip
  refine endQ_ret1 rfl rfl (v := .int _ _) rfl ⟨?_, Ext.refl w⟩
  rfl
theorem r2int (x : Nat) (hx : x < pr) (hs : x < 9223372036854775807) (w : World) :
    Calls Tryz.prog 45 #[.int .i64 (x : Nat)] w fun e w' => e = .returned (.agg (xc (Fd.E.of (Fd.k x))).toArray) ∧ Ext w w' := by
  have hp : x < 18446744069414584321 := hx
  obtain ⟨y, rfl⟩ : ∃ y : Fd.K, x = y.val := ⟨Fd.k x, (Fd.k_of hx).symm⟩
  rw [Fd.val_k]
  refine calls_W Tryz.func45 rfl Tryz.ntmps45 rfl ?_
  (refine W_seq ?_; refine W_region ?_)
  refine L_alloc ?_
  intro g1 w1 B1 hg1 E1 hs1
  (refine L_nil ?_; refine tn ?_; refine W_seq ?_; refine W_region ?_; refine Ls (X_move (v := .int _ _) rfl) ?_)
  refine L_fv rfl (rint y.val hs w1) ?_
  intro w2 E2
  skip
  refine Ls (X_mkEx1 (a := y.val) rfl) ?_
  refine L_storeW rfl rfl rfl exC_cell (B1.ext E2) rfl ?_
  intro wz Bz hgz _
  (refine L_nil ?_; refine tn ?_; refine W_ret ?_)
  refine endQ_res rfl rfl (Res.cellA inferInstance rfl (Bz.range (fun j u h => by simpa using h)) rfl .nil) ?_
  exact ⟨rfl, (E1.trans E2).then hgz (fun g h => by cases h; omega)⟩
theorem r2made (a b : Nat) (ha : a < 18446744073709551616) (hb : b < 18446744073709551616) (w : World) :
    Calls Tryz.prog 29 #[.agg (exC a b).toArray] w fun e w' => e = .returned (.agg (xc ⟨Fd.k a, Fd.k b⟩).toArray) ∧ Ext w w' := by
  refine calls_W Tryz.func29 rfl Tryz.ntmps29 rfl ?_
  (refine W_seq ?_; refine W_region ?_)
  refine L_box rfl ?_
  intro g1 w1 B1 hg1 E1 hs1
  refine L_alloc ?_
  intro g3 w3 B3 hg3 E3 hs3
  have Ea := E1.trans E3
  have C1 := B1.ext E3
  (refine L_nil ?_; refine tn ?_; refine W_seq ?_)
  apply W_dagE 5 (by kernel_rfl)
  (apply DW_x (fun r w hA hH => (X_fld rfl).trans rfl); apply DW_x (fun r w hA hH => (X_ld rfl (C1.ext hA) rfl).trans rfl))
  ((with_reducible apply DW_fn); (exact fun _ => rfl); (exact fun _ => rfl); (exact fun r w hA hH => rreduce a ha w))
  (apply DW_x (fun r w hA hH => (X_fld rfl).trans rfl); apply DW_x (fun r w hA hH => (X_ld rfl (C1.ext hA) rfl).trans rfl))
  ((with_reducible exact D_end); (exact rfl); (repeat (first | exact .inr (.inr (fun _ _ => by with_reducible rfl)) | (refine And.intro ?_ ?_) | exact .inr (.inl rfl) | exact .inl (by decide +kernel) | exact trivial | exact .inr (.inr (fun _ _ => rfl)))); (try dsimp only [Nat.reduceAdd]))
  intro r w4 E4 H4
  refine L_fv rfl (rreduce b hb w4) ?_
  intro w5 E5
  have E7 := E4.trans E5
  refine Ls (X_mkEx (a := (Fd.k a).val) (b := (Fd.k b).val) rfl rfl) ?_
  refine L_storeW rfl rfl rfl exC_cell (B3.ext E7) rfl ?_
  intro wz Bz hgz _
  (refine L_nil ?_; refine tn ?_; refine W_ret ?_)
  refine endQ_res rfl rfl (Res.cellA inferInstance rfl (Bz.range (fun j u h => by simpa using h)) rfl .nil) ?_
  exact ⟨rfl, (Ea.trans E7).then hgz (fun g h => by cases h; have := E1.size; omega)⟩
theorem r2mulb (x : Fd.E) (y : Fd.K) (w : World) :
    Calls Tryz.prog 39 #[.agg (xc x).toArray, kv y] w fun e w' => e = .returned (.agg (xc (x * Fd.E.of y)).toArray) ∧ Ext w w' := by
  refine calls_W Tryz.func39 rfl Tryz.ntmps39 rfl ?_
  (refine W_seq ?_; refine W_region ?_)
  refine L_box rfl ?_
  intro g1 w1 B1 hg1 E1 hs1
  refine L_alloc ?_
  intro g3 w3 B3 hg3 E3 hs3
  have Ea := E1.trans E3
  have C1 := B1.ext E3
  (refine L_nil ?_; refine tn ?_; refine W_seq ?_)
  apply W_dagE 3 (by kernel_rfl)
  (apply DW_x (fun r w hA hH => (X_ldW rfl (C1.ext hA) rfl).trans rfl); apply DW_x (fun r w hA hH => (X_move (v := .int _ _) rfl).trans rfl))
  ((with_reducible apply DW_fn); (exact fun _ => rfl); (exact fun _ => rfl); (exact fun r w hA hH => r2base y w))
  skip
  ((with_reducible exact D_end); (exact rfl); (repeat (first | exact .inr (.inr (fun _ _ => by with_reducible rfl)) | (refine And.intro ?_ ?_) | exact .inr (.inl rfl) | exact .inl (by decide +kernel) | exact trivial | exact .inr (.inr (fun _ _ => rfl)))); (try dsimp only [Nat.reduceAdd]))
  intro r w4 E4 H4
  refine L_fv rfl (r2mul x (Fd.E.of y) w4) ?_
  intro w5 E5
  have E7 := E4.trans E5
  refine L_storeW rfl rfl rfl exC_cell (B3.ext E7) rfl ?_
  intro wz Bz hgz _
  (refine L_nil ?_; refine tn ?_; refine W_ret ?_)
  refine endQ_res rfl rfl (Res.cellA inferInstance rfl (Bz.range (fun j u h => by simpa using h)) rfl .nil) ?_
  exact ⟨rfl, (Ea.trans E7).then hgz (fun g h => by cases h; have := E1.size; omega)⟩
end Go.Proofs.YtpohjepbmgeplaaGreatDoor

/- Powers and roots of unity. -/
namespace Go.Proofs.YtpohjepbmgeplaaGreatDoor
open Go.RowKit Go.Proofs.K
open _root_.Fd (pr K pw root)

theorem pw_odd (a o : K) {q : Nat} (h : q % 2 = 1) : o * a * pw (a * a) (q / 2) = o * pw a q := by
  have e : pw a q = pw a (2 * (q / 2)) * a := by
    show pw a q = pw a (2 * (q / 2) + 1)
    rw [show 2 * (q / 2) + 1 = q by omega]
  rw [e, Fd.pw_mul, Fd.pw_two]; grind
theorem pw_even (a o : K) {q : Nat} (h : q % 2 ≠ 1) : o * pw (a * a) (q / 2) = o * pw a q := by
  have e : pw a q = pw a (2 * (q / 2)) := by rw [show 2 * (q / 2) = q by omega]
  rw [e, Fd.pw_mul, Fd.pw_two]
theorem gpowm (x y : K) (w : World) :
    Calls Tryz.prog 182 #[kv x, kv y] w fun e w' => e = .returned (kv (x * y)) ∧ Ext w w' := by
  refine calls_W Tryz.func182 rfl Tryz.ntmps182 rfl ?_
  (refine W_seq ?_; refine W_region ?_; refine Ls (X_assign (v := .int _ _) rfl) ?_; refine L_nil ?_; refine tn ?_; refine W_seq ?_; refine W_region ?_; refine Ls (X_move (v := .int _ _) rfl) ?_; refine Ls (X_move (v := .int _ _) rfl) ?_)
  refine L_fv rfl (gmul x y w) ?_
  intro w2 E2
  (refine Ls (X_assign (v := .int _ _) rfl) ?_; refine L_nil ?_; refine tn ?_; refine W_ret ?_)
  refine endQ_ret1 rfl rfl (v := .int _ _) rfl ⟨rfl, E2⟩
set_option maxHeartbeats 1000000 in
theorem gpower (x : K) (m : Nat) (hm : m < 18446744073709551616) (w : World) :
    Calls Tryz.prog 181 #[kv x, kv 1, .int .u64 (m : Nat), .func (.func 182) #[] #[]] w fun e w' => e = .returned (kv (pw x m)) ∧ Ext w w' := by
  refine calls_W Tryz.func181 rfl Tryz.ntmps181 rfl ?_
  (refine W_seq ?_; refine W_region ?_; refine Ls (X_assign (v := .int _ _) rfl) ?_; refine L_nil ?_; refine tn ?_; refine W_seq ?_; refine W_region ?_; refine Ls (X_move (v := .int _ _) rfl) ?_; refine Ls (X_assign (v := .int _ _) rfl) ?_; refine L_nil ?_; refine tn ?_; refine W_seq ?_; refine W_block ?_)
  refine W_loop (fun q f w' => ∃ a o : K, f 0 = kv a ∧ f 2 = .int .u64 (q : Nat) ∧ f 3 = .func (.func 182) #[] #[] ∧ f 9 = kv o ∧ o * pw a q = pw x m ∧ q < 18446744073709551616 ∧ Ext w w') m ?_ ?_
  · exact ⟨x, 1, rfl, rfl, rfl, rfl, by grind, hm, Ext.refl w⟩
  · rintro q f wr ⟨a, o, h0, h1, h3, h5, hq, hlt, E⟩
    rw [fold h0, fold h1, fold h3, fold h5]
    have e1 : bits .and .u64 (q : Int) 1 = ((q % 2 : Nat) : Int) := by
      have h := bits_and_u64_nat q 1 hlt (by omega)
      rw [Nat.and_one_is_mod] at h
      exact h
    (refine W_seq ?_; refine W_seq ?_; refine W_region ?_; refine Ls (X_move (v := .int _ _) rfl) ?_; refine Ls (X_gtr rfl rfl) ?_; refine L_nil ?_; refine tn ?_)
    refine W_condp rfl (fun h => ?_) (fun h => ?_)
    · (refine W_skip ?_; refine tn ?_; refine W_seq ?_; refine W_block ?_; refine W_seq ?_; refine W_seq ?_; refine W_region ?_; refine Ls (X_move (v := .int _ _) rfl) ?_; refine Ls (X_and rfl rfl) ?_; refine Ls (X_eql rfl rfl) ?_; refine L_nil ?_; refine tn ?_)
      rw [e1]
      skip
      refine W_condp rfl (fun h2 => ?_) (fun h2 => ?_)
      · (refine W_region ?_; refine Ls (X_move (v := .func _ _ _) rfl) ?_; refine Ls (X_move (v := .int _ _) rfl) ?_; refine Ls (X_move (v := .int _ _) rfl) ?_)
        refine L_clo (vl := [kv o, kv a]) rfl (gpowm o a wr) rfl (fun e w2 hq2 => ⟨_, hq2.1, ?_⟩)
        have E2 := hq2.2
        (refine Ls (X_assign (v := .int _ _) rfl) ?_; refine L_nil ?_; refine tn ?_; refine W_region ?_; refine Ls (X_move (v := .func _ _ _) rfl) ?_; refine Ls (X_move (v := .int _ _) rfl) ?_; refine Ls (X_move (v := .int _ _) rfl) ?_)
        refine L_clo (vl := [kv a, kv a]) rfl (gpowm a a w2) rfl (fun e w3 hq3 => ⟨_, hq3.1, ?_⟩)
        have E3 := hq3.2
        (refine Ls (X_assign (v := .int _ _) rfl) ?_; refine L_nil ?_; refine bn ?_; refine tn ?_; refine W_region ?_; refine Ls (X_move (v := .int _ _) rfl) ?_; refine Ls (X_shr rfl rfl (by omega)) ?_; refine Ls (X_assign (v := .int _ _) rfl) ?_; refine L_nil ?_; refine tn ?_)
        exact ⟨q / 2, by omega, a * a, o * a, rfl, congrArg (Value.int .u64) (shr_nat q 1 (by omega)), rfl, rfl, (pw_odd a o (by omega)).trans hq, by omega, E.trans (E2.trans E3)⟩
      · (refine W_skip ?_; refine tn ?_; refine W_region ?_; refine Ls (X_move (v := .func _ _ _) rfl) ?_; refine Ls (X_move (v := .int _ _) rfl) ?_; refine Ls (X_move (v := .int _ _) rfl) ?_)
        refine L_clo (vl := [kv a, kv a]) rfl (gpowm a a wr) rfl (fun e w3 hq3 => ⟨_, hq3.1, ?_⟩)
        have E3 := hq3.2
        (refine Ls (X_assign (v := .int _ _) rfl) ?_; refine L_nil ?_; refine bn ?_; refine tn ?_; refine W_region ?_; refine Ls (X_move (v := .int _ _) rfl) ?_; refine Ls (X_shr rfl rfl (by omega)) ?_; refine Ls (X_assign (v := .int _ _) rfl) ?_; refine L_nil ?_; refine tn ?_)
        exact ⟨q / 2, by omega, a * a, o, rfl, congrArg (Value.int .u64) (shr_nat q 1 (by omega)), rfl, rfl, (pw_even a o (by omega)).trans hq, by omega, E.trans E3⟩
    · obtain rfl : q = 0 := by omega
      (refine W_exit ?_; refine te ?_; refine te ?_; refine bx ?_; refine tn ?_; refine W_seq ?_; refine W_region ?_; refine Ls (X_move (v := .int _ _) rfl) ?_; refine Ls (X_assign (v := .int _ _) rfl) ?_; refine L_nil ?_; refine tn ?_; refine W_ret ?_)
      refine endQ_ret1 rfl rfl (v := .int _ _) rfl ⟨?_, E⟩
      rw [← hq, show o * pw a 0 = o by show o * 1 = o; grind]
theorem gpow (x : K) (m : Nat) (hm : m < 18446744073709551616) (w : World) :
    Calls Tryz.prog 139 #[kv x, .int .u64 (m : Nat)] w fun e w' => e = .returned (kv (pw x m)) ∧ Ext w w' := by
  refine calls_W Tryz.func139 rfl Tryz.ntmps139 rfl ?_
  (refine W_seq ?_; refine W_region ?_; refine Ls (X_assign (v := .int _ _) rfl) ?_; refine L_nil ?_; refine tn ?_; refine W_seq ?_; refine W_region ?_; refine Ls (X_move (v := .int _ _) rfl) ?_; refine Ls (X_move (v := .int _ _) rfl) ?_)
  refine L_fv rfl (gpower x m hm w) ?_
  intro w2 E2
  (refine Ls (X_assign (v := .int _ _) rfl) ?_; refine L_nil ?_; refine tn ?_; refine W_ret ?_)
  refine endQ_ret1 rfl rfl (v := .int _ _) rfl ⟨rfl, E2⟩
theorem root_exp {j : Nat} (h : j ≤ 32) : (18446744069414584320 : Int).fdiv (2 ^ (min (j : Int).toNat IntKind.u64.bits)) = ((18446744069414584320 / 2 ^ j : Nat) : Int) := by
  exact shr_nat 18446744069414584320 j (by omega)
theorem groot (j : Nat) (h : j ≤ 32) (w : World) :
    Calls Tryz.prog 137 #[.int .i64 (j : Nat)] w fun e w' => e = .returned (.tuple #[kv (root j), .int .i64 0]) ∧ Ext w w' := by
  refine calls_W Tryz.func137 rfl Tryz.ntmps137 rfl ?_
  (refine W_seq ?_; refine W_region ?_; refine Ls (X_assign (v := .int _ _) rfl) ?_; refine Ls (X_assign (v := .int _ _) rfl) ?_; refine L_nil ?_; refine tn ?_; refine W_seq ?_; refine W_seq ?_; refine W_region ?_; refine Ls (X_move (v := .int _ _) rfl) ?_; refine Ls (X_lssF rfl rfl (by omega)) ?_; refine Ls (X_move (v := .bool _) rfl) ?_; refine Lg2 rfl rfl rfl (X_move (v := .int _ _) rfl) ?_; refine Lg2 rfl rfl rfl (X_gtrF rfl rfl (by omega)) ?_; refine Ls (X_pickF (v := .bool _) rfl rfl) ?_; refine L_nil ?_; refine tn ?_; refine W_condF rfl ?_; refine W_skip ?_; refine tn ?_; refine W_seq ?_; refine W_region ?_; refine Ls (X_move (v := .int _ _) rfl) ?_; refine Ls (X_shr rfl rfl (by omega)) ?_)
  have hb : 18446744069414584320 / 2 ^ j < 18446744073709551616 := Nat.lt_of_le_of_lt (Nat.div_le_self _ _) (by decide)
  rw [root_exp h]
  generalize hz : 18446744069414584320 / 2 ^ j = z at hb
  refine L_fv rfl (gpow 7 z hb w) ?_
  intro w2 E2
  (refine Ls (X_assign (v := .int _ _) rfl) ?_; refine Ls (X_assign (v := .int _ _) rfl) ?_; refine L_nil ?_; refine tn ?_; refine W_ret ?_)
  refine endQ_ret2 rfl rfl (v := .int _ _) (x := .int _ _) rfl rfl ?_
  rw [← hz]
  exact ⟨rfl, E2⟩
end Go.Proofs.YtpohjepbmgeplaaGreatDoor

/- The extension: the program's. -/
namespace Go.Proofs.YtpohjepbmgeplaaGreatDoor
open Go.RowKit Go.Proofs.K
open _root_.Fd (pr K E pw root)

theorem gbase (x : Fd.K) (w : World) :
    Calls Tryz.prog 97 #[kv x] w fun e w' => e = .returned (.agg (xc (Fd.E.of x)).toArray) ∧ Ext w w' := by
  refine calls_W Tryz.func97 rfl Tryz.ntmps97 rfl ?_
  (refine W_seq ?_; refine W_region ?_)
  refine L_alloc ?_
  intro g1 w1 B1 hg1 E1 hs1
  (refine L_nil ?_; refine tn ?_; refine W_seq ?_; refine W_region ?_; refine Ls (X_move (v := .int _ _) rfl) ?_)
  refine Ls (X_mkEx1 (a := x.val) rfl) ?_
  refine L_storeW rfl rfl rfl exC_cell (B1) rfl ?_
  intro wz Bz hgz _
  (refine L_nil ?_; refine tn ?_; refine W_ret ?_)
  refine endQ_res rfl rfl (Res.cellA inferInstance rfl (Bz.range (fun j u h => by simpa using h)) rfl .nil) ?_
  exact ⟨rfl, (E1).then hgz (fun g h => by cases h; omega)⟩
theorem gexvalid (a b : Nat) (w : World) :
    Calls Tryz.prog 77 #[.agg (exC a b).toArray] w fun e w' => e = .returned (.bool (decide (a < pr) && decide (b < pr))) ∧ Ext w w' := by
  refine calls_W Tryz.func77 rfl Tryz.ntmps77 rfl ?_
  (refine W_seq ?_; refine W_region ?_)
  refine L_box rfl ?_
  intro g1 w1 B1 hg1 E1 hs1
  (refine Ls (X_assign (v := .bool _) rfl) ?_; refine L_nil ?_; refine tn ?_; refine W_seq ?_; refine W_region ?_; refine Ls (X_fld rfl) ?_; refine Ls (X_ld rfl B1 rfl) ?_)
  have h1 := gvalid a w1
  cases hd : decide (a < pr)
  · rw [hd] at h1
    refine L_fv rfl (h1) ?_
    intro w2 E2
    (refine Ls (X_move (v := .bool _) rfl) ?_; refine Lo2 rfl rfl rfl rfl ?_; refine Lo2 rfl rfl rfl rfl ?_; refine Lo2 rfl rfl rfl rfl ?_; refine Ls (X_pickF (v := .bool _) rfl rfl) ?_; refine Ls (X_assign (v := .bool _) rfl) ?_; refine L_nil ?_; refine tn ?_; refine W_ret ?_)
    refine endQ_ret1 rfl rfl (v := .bool _) rfl ⟨rfl, E1.trans E2⟩
  · rw [hd] at h1
    refine L_fv rfl (h1) ?_
    intro w2 E2
    (refine Ls (X_move (v := .bool _) rfl) ?_; refine Lg2 rfl rfl rfl (X_fld rfl) ?_; refine Lg2 rfl rfl rfl (X_ld rfl (B1.ext E2) rfl) ?_)
    refine L_strip rfl rfl rfl ?_
    refine L_fv rfl (gvalid b w2) ?_
    intro w3 E3
    (refine Ls (X_pickT (v := .bool _) rfl rfl) ?_; refine Ls (X_assign (v := .bool _) rfl) ?_; refine L_nil ?_; refine tn ?_; refine W_ret ?_)
    refine endQ_ret1 rfl rfl (v := .bool _) rfl ⟨?_, E1.trans (E2.trans E3)⟩
    rw [Bool.true_and]
/-- a function on elements, applied to both parts -/
theorem gcomp (id : FuncId) [TFun Tryz.prog id] (op : K → K → K) (hop : ∀ (x y : K) (w : World), Calls Tryz.prog id #[kv x, kv y] w fun e w' => e = .returned (kv (op x y)) ∧ Ext w w')
    (x y : E) (b : Nat) (w : World) (hB : Blk w b 80 [.func (.func id) #[] #[]]) :
    Calls Tryz.prog 143 #[.agg (xc x).toArray, .agg (xc y).toArray, .pointer (some ⟨b, 0, none⟩)] w fun e w' => e = .returned (.agg (exC (op x.a y.a).val (op x.b y.b).val).toArray) ∧ Ext w w' := by
  refine calls_W Tryz.func143 rfl Tryz.ntmps143 rfl ?_
  (refine W_seq ?_; refine W_region ?_)
  refine L_box rfl ?_
  intro g1 w1 B1 hg1 E1 hs1
  refine L_box rfl ?_
  intro g2 w2 B2 hg2 E2 hs2
  refine L_alloc ?_
  intro g3 w3 B3 hg3 E3 hs3
  have Ea := E1.trans (E2.trans E3)
  have C1 := B1.ext (E2.trans E3)
  have C2 := B2.ext E3
  have C0 := hB.ext Ea
  (refine L_nil ?_; refine tn ?_; refine W_seq ?_)
  apply W_dagE 11 (by kernel_rfl)
  (apply DW_x (fun r w hA hH => (X_ld rfl (C0.ext hA) rfl).trans rfl); apply DW_x (fun r w hA hH => (X_fld rfl).trans rfl); apply DW_x (fun r w hA hH => (X_ld rfl (C1.ext hA) rfl).trans rfl); apply DW_x (fun r w hA hH => (X_fld rfl).trans rfl); apply DW_x (fun r w hA hH => (X_ld rfl (C2.ext hA) rfl).trans rfl))
  apply DW_fc (first := #[]) (cap := #[]) (vl := fun _ => [kv x.a, kv y.a]) (fun _ => rfl) (fun _ => rfl) (fun r w hA hH => hop x.a y.a w)
  (apply DW_x (fun r w hA hH => (X_ld rfl (C0.ext hA) rfl).trans rfl); apply DW_x (fun r w hA hH => (X_fld rfl).trans rfl); apply DW_x (fun r w hA hH => (X_ld rfl (C1.ext hA) rfl).trans rfl); apply DW_x (fun r w hA hH => (X_fld rfl).trans rfl); apply DW_x (fun r w hA hH => (X_ld rfl (C2.ext hA) rfl).trans rfl))
  ((with_reducible exact D_end); (exact rfl); (repeat (first | exact .inr (.inr (fun _ _ => by with_reducible rfl)) | (refine And.intro ?_ ?_) | exact .inr (.inl rfl) | exact .inl (by decide +kernel) | exact trivial | exact .inr (.inr (fun _ _ => rfl)))); (try dsimp only [Nat.reduceAdd]))
  intro r w4 E4 H4
  refine L_clo (vl := [kv x.b, kv y.b]) rfl (hop x.b y.b w4) rfl (fun e w5 hq => ⟨_, hq.1, ?_⟩)
  have E5 := hq.2
  refine Ls (X_mkEx (a := (op x.a y.a).val) (b := (op x.b y.b).val) rfl rfl) ?_
  refine L_storeW rfl rfl rfl exC_cell (B3.ext (E4.trans E5)) rfl ?_
  intro wz Bz hgz _
  (refine L_nil ?_; refine tn ?_; refine W_ret ?_)
  refine endQ_res rfl rfl (Res.cellA inferInstance rfl (Bz.range (fun j u h => by simpa using h)) rfl .nil) ?_
  exact ⟨rfl, (Ea.trans (E4.trans E5)).then hgz (fun g h => by cases h; have := E1.size; have := E2.size; omega)⟩
/-- the closure that applies a function to both parts -/
def CwF (id : FuncId) (v : Value) (w : World) : Prop := ∃ b, v = .func (.func 143) #[] #[.pointer (some ⟨b, 0, none⟩)] ∧ Blk w b 80 [.func (.func id) #[] #[]]
theorem CwF.ext {id : FuncId} {v : Value} {w w' : World} (h : CwF id v w) (E : Ext w w') : CwF id v w' := by
  obtain ⟨b, h1, h2⟩ := h
  exact ⟨b, h1, h2.ext E⟩
theorem gcw (id : FuncId) (w : World) :
    Calls Tryz.prog 94 #[.func (.func id) #[] #[]] w fun e w' => ∃ v, e = .returned v ∧ Ext w w' ∧ CwF id v w' := by
  refine calls_W Tryz.func94 rfl Tryz.ntmps94 rfl ?_
  (refine W_seq ?_; refine W_region ?_)
  refine L_box1 (v := .func (.func id) #[] #[]) rfl rfl ?_
  intro g1 w1 B1 hg1 E1 hs1
  (refine Ls (X_assign (v := Value.nilFunc) rfl) ?_; refine L_nil ?_; refine tn ?_; refine W_seq ?_; refine W_region ?_)
  refine Ls (X_mkFunc (vf := []) (vc := [.pointer (some ⟨g1, 0, none⟩)]) rfl rfl) ?_
  (refine Ls (X_assign (v := .func _ _ _) rfl) ?_; refine L_nil ?_; refine tn ?_; refine W_ret ?_)
  refine endQ_ret1 rfl rfl (v := .func _ _ _) rfl ⟨_, rfl, E1, g1, rfl, B1⟩
theorem gexadd (x y : E) (w : World) :
    Calls Tryz.prog 41 #[.agg (xc x).toArray, .agg (xc y).toArray] w fun e w' => e = .returned (.agg (xc (x + y)).toArray) ∧ Ext w w' := by
  refine calls_W Tryz.func41 rfl Tryz.ntmps41 rfl ?_
  (refine W_seq ?_; refine W_region ?_)
  refine L_box rfl ?_
  intro g1 w1 B1 hg1 E1 hs1
  refine L_box rfl ?_
  intro g2 w2 B2 hg2 E2 hs2
  refine L_alloc ?_
  intro g3 w3 B3 hg3 E3 hs3
  have Ea := E1.trans (E2.trans E3)
  have C1 := B1.ext (E2.trans E3)
  have C2 := B2.ext E3
  (refine L_nil ?_; refine tn ?_; refine W_seq ?_)
  apply W_dagE 3 (by kernel_rfl)
  ((with_reducible apply DW_fo (F := CwF 95)); (exact fun _ => rfl); (exact fun _ => rfl); (exact fun r w hA hH => gcw _ w); (exact fun i u w w' hi ht hR h => h.ext hR))
  (apply DW_x (fun r w hA hH => (X_ldW rfl (C1.ext hA) rfl).trans rfl); apply DW_x (fun r w hA hH => (X_ldW rfl (C2.ext hA) rfl).trans rfl))
  ((with_reducible exact D_end); (exact rfl); (repeat (first | exact .inr (.inr (fun _ _ => by with_reducible rfl)) | (refine And.intro ?_ ?_) | exact .inr (.inl rfl) | exact .inl (by decide +kernel) | exact trivial | exact .inr (.inr (fun _ _ => rfl)))); (try dsimp only [Nat.reduceAdd]))
  intro r w4 E4 H4
  obtain ⟨b, hb, hB⟩ : CwF _ (r 0) w4 := H4 0
  refine L_clo (vl := [.agg (xc x).toArray, .agg (xc y).toArray]) (show _ = _ from hb) (gcomp 95 (· + ·) gadd x y b w4 hB) rfl (fun e w5 hq => ⟨_, hq.1, ?_⟩)
  have E5 := hq.2
  refine L_storeW rfl rfl rfl exC_cell (B3.ext (E4.trans E5)) rfl ?_
  intro wz Bz hgz _
  (refine L_nil ?_; refine tn ?_; refine W_ret ?_)
  refine endQ_res rfl rfl (Res.cellA inferInstance rfl (Bz.range (fun j u h => by simpa using h)) rfl .nil) ?_
  exact ⟨rfl, (Ea.trans (E4.trans E5)).then hgz (fun g h => by cases h; have := E1.size; have := E2.size; omega)⟩
theorem gexsub (x y : E) (w : World) :
    Calls Tryz.prog 167 #[.agg (xc x).toArray, .agg (xc y).toArray] w fun e w' => e = .returned (.agg (xc (x - y)).toArray) ∧ Ext w w' := by
  refine calls_W Tryz.func167 rfl Tryz.ntmps167 rfl ?_
  (refine W_seq ?_; refine W_region ?_)
  refine L_box rfl ?_
  intro g1 w1 B1 hg1 E1 hs1
  refine L_box rfl ?_
  intro g2 w2 B2 hg2 E2 hs2
  refine L_alloc ?_
  intro g3 w3 B3 hg3 E3 hs3
  have Ea := E1.trans (E2.trans E3)
  have C1 := B1.ext (E2.trans E3)
  have C2 := B2.ext E3
  (refine L_nil ?_; refine tn ?_; refine W_seq ?_)
  apply W_dagE 3 (by kernel_rfl)
  ((with_reducible apply DW_fo (F := CwF 187)); (exact fun _ => rfl); (exact fun _ => rfl); (exact fun r w hA hH => gcw _ w); (exact fun i u w w' hi ht hR h => h.ext hR))
  (apply DW_x (fun r w hA hH => (X_ldW rfl (C1.ext hA) rfl).trans rfl); apply DW_x (fun r w hA hH => (X_ldW rfl (C2.ext hA) rfl).trans rfl))
  ((with_reducible exact D_end); (exact rfl); (repeat (first | exact .inr (.inr (fun _ _ => by with_reducible rfl)) | (refine And.intro ?_ ?_) | exact .inr (.inl rfl) | exact .inl (by decide +kernel) | exact trivial | exact .inr (.inr (fun _ _ => rfl)))); (try dsimp only [Nat.reduceAdd]))
  intro r w4 E4 H4
  obtain ⟨b, hb, hB⟩ : CwF _ (r 0) w4 := H4 0
  refine L_clo (vl := [.agg (xc x).toArray, .agg (xc y).toArray]) (show _ = _ from hb) (gcomp 187 (· - ·) gsub x y b w4 hB) rfl (fun e w5 hq => ⟨_, hq.1, ?_⟩)
  have E5 := hq.2
  refine L_storeW rfl rfl rfl exC_cell (B3.ext (E4.trans E5)) rfl ?_
  intro wz Bz hgz _
  (refine L_nil ?_; refine tn ?_; refine W_ret ?_)
  refine endQ_res rfl rfl (Res.cellA inferInstance rfl (Bz.range (fun j u h => by simpa using h)) rfl .nil) ?_
  exact ⟨rfl, (Ea.trans (E4.trans E5)).then hgz (fun g h => by cases h; have := E1.size; have := E2.size; omega)⟩
set_option maxHeartbeats 1000000 in
theorem gtimes (x y : E) (w : World) :
    Calls Tryz.prog 165 #[.agg (xc x).toArray, .agg (xc y).toArray] w fun e w' => e = .returned (.agg (xc (x * y)).toArray) ∧ Ext w w' := by
  refine calls_W Tryz.func165 rfl Tryz.ntmps165 rfl ?_
  (refine W_seq ?_; refine W_region ?_)
  refine L_box rfl ?_
  intro g1 w1 B1 hg1 E1 hs1
  refine L_box rfl ?_
  intro g2 w2 B2 hg2 E2 hs2
  refine L_alloc ?_
  intro g3 w3 B3 hg3 E3 hs3
  have Ea := E1.trans (E2.trans E3)
  have C1 := B1.ext (E2.trans E3)
  have C2 := B2.ext E3
  (refine L_nil ?_; refine tn ?_; refine W_seq ?_)
  apply W_dagE 9 (by kernel_rfl)
  (apply DW_x (fun r w hA hH => (X_fld rfl).trans rfl); apply DW_x (fun r w hA hH => (X_ld rfl (C1.ext hA) rfl).trans rfl); apply DW_x (fun r w hA hH => (X_fld rfl).trans rfl); apply DW_x (fun r w hA hH => (X_ld rfl (C2.ext hA) rfl).trans rfl))
  ((with_reducible apply DW_fn); (exact fun _ => rfl); (exact fun _ => rfl); (exact fun r w hA hH => gmul x.a y.a w))
  (apply DW_x (fun r w hA hH => (X_fld rfl).trans rfl); apply DW_x (fun r w hA hH => (X_ld rfl (C1.ext hA) rfl).trans rfl); apply DW_x (fun r w hA hH => (X_fld rfl).trans rfl); apply DW_x (fun r w hA hH => (X_ld rfl (C2.ext hA) rfl).trans rfl))
  ((with_reducible exact D_end); (exact rfl); (repeat (first | exact .inr (.inr (fun _ _ => by with_reducible rfl)) | (refine And.intro ?_ ?_) | exact .inr (.inl rfl) | exact .inl (by decide +kernel) | exact trivial | exact .inr (.inr (fun _ _ => rfl)))); (try dsimp only [Nat.reduceAdd]))
  intro r w4 E4 H4
  refine L_fv rfl (gmul x.b y.b w4) ?_
  intro w5 E5
  have E45 := E4.trans E5
  (refine Ls (X_assign (v := .int _ _) rfl) ?_; refine Ls (X_assign (v := .int _ _) rfl) ?_; refine L_nil ?_; refine tn ?_; refine W_seq ?_)
  apply W_dagE 9 (by kernel_rfl)
  (apply DW_x (fun r w hA hH => (X_fld rfl).trans rfl); apply DW_x (fun r w hA hH => (X_ld rfl (C1.ext (E45.trans hA)) rfl).trans rfl); apply DW_x (fun r w hA hH => (X_fld rfl).trans rfl); apply DW_x (fun r w hA hH => (X_ld rfl (C1.ext (E45.trans hA)) rfl).trans rfl))
  ((with_reducible apply DW_fn); (exact fun _ => rfl); (exact fun _ => rfl); (exact fun r w hA hH => gadd x.a x.b w))
  (apply DW_x (fun r w hA hH => (X_fld rfl).trans rfl); apply DW_x (fun r w hA hH => (X_ld rfl (C2.ext (E45.trans hA)) rfl).trans rfl); apply DW_x (fun r w hA hH => (X_fld rfl).trans rfl); apply DW_x (fun r w hA hH => (X_ld rfl (C2.ext (E45.trans hA)) rfl).trans rfl))
  ((with_reducible exact D_end); (exact rfl); (repeat (first | exact .inr (.inr (fun _ _ => by with_reducible rfl)) | (refine And.intro ?_ ?_) | exact .inr (.inl rfl) | exact .inl (by decide +kernel) | exact trivial | exact .inr (.inr (fun _ _ => rfl)))); (try dsimp only [Nat.reduceAdd]))
  intro r w6 E6 H6
  refine L_fv rfl (gadd y.a y.b w6) ?_
  intro w7 E7
  skip
  refine L_fv rfl (gmul (x.a + x.b) (y.a + y.b) w7) ?_
  intro w8 E8
  (refine Ls (X_assign (v := .int _ _) rfl) ?_; refine L_nil ?_; refine tn ?_; refine W_seq ?_; refine W_region ?_; refine Ls (X_move (v := .int _ _) rfl) ?_; refine Ls (X_move (v := .int _ _) rfl) ?_)
  refine L_fv rfl (gmul 7 (x.b * y.b) w8) ?_
  intro w9 E9
  skip
  refine L_fv rfl (gadd (x.a * y.a) (7 * (x.b * y.b)) w9) ?_
  intro w10 E10
  (refine Ls (X_move (v := .int _ _) rfl) ?_; refine Ls (X_move (v := .int _ _) rfl) ?_)
  refine L_fv rfl (gsub ((x.a + x.b) * (y.a + y.b)) (x.a * y.a) w10) ?_
  intro w11 E11
  (refine Ls (X_move (v := .int _ _) rfl) ?_)
  refine L_fv rfl (gsub ((x.a + x.b) * (y.a + y.b) - x.a * y.a) (x.b * y.b) w11) ?_
  intro w12 E12
  have E13 := E45.trans (E6.trans (E7.trans (E8.trans (E9.trans (E10.trans (E11.trans E12))))))
  refine Ls (X_mkEx (a := (x.a * y.a + 7 * (x.b * y.b)).val) (b := ((x.a + x.b) * (y.a + y.b) - x.a * y.a - x.b * y.b).val) rfl rfl) ?_
  rw [Fd.E.mul_kara x y]
  refine L_storeW rfl rfl rfl exC_cell (B3.ext E13) rfl ?_
  intro wz Bz hgz _
  (refine L_nil ?_; refine tn ?_; refine W_ret ?_)
  refine endQ_res rfl rfl (Res.cellA inferInstance rfl (Bz.range (fun j u h => by simpa using h)) rfl .nil) ?_
  exact ⟨rfl, (Ea.trans E13).then hgz (fun g h => by cases h; have := E1.size; have := E2.size; omega)⟩
theorem gexmul (x y : E) (w : World) :
    Calls Tryz.prog 116 #[.agg (xc x).toArray, .agg (xc y).toArray] w fun e w' => e = .returned (.agg (xc (x * y)).toArray) ∧ Ext w w' := by
  refine calls_W Tryz.func116 rfl Tryz.ntmps116 rfl ?_
  (refine W_seq ?_; refine W_region ?_)
  refine L_box rfl ?_
  intro g1 w1 B1 hg1 E1 hs1
  refine L_box rfl ?_
  intro g2 w2 B2 hg2 E2 hs2
  refine L_alloc ?_
  intro g3 w3 B3 hg3 E3 hs3
  have Ea := E1.trans (E2.trans E3)
  have C1 := B1.ext (E2.trans E3)
  have C2 := B2.ext E3
  (refine L_nil ?_; refine tn ?_; refine W_seq ?_; refine W_region ?_; refine Ls (X_ldW rfl C1 rfl) ?_; refine Ls (X_ldW rfl C2 rfl) ?_)
  refine L_fv rfl (gtimes x y w3) ?_
  intro w4 E4
  refine L_storeW rfl rfl rfl exC_cell (B3.ext E4) rfl ?_
  intro wz Bz hgz _
  (refine L_nil ?_; refine tn ?_; refine W_ret ?_)
  refine endQ_res rfl rfl (Res.cellA inferInstance rfl (Bz.range (fun j u h => by simpa using h)) rfl .nil) ?_
  exact ⟨rfl, (Ea.trans E4).then hgz (fun g h => by cases h; have := E1.size; have := E2.size; omega)⟩
theorem gexmulb (x : E) (y : K) (w : World) :
    Calls Tryz.prog 242 #[.agg (xc x).toArray, kv y] w fun e w' => e = .returned (.agg (xc (x * Fd.E.of y)).toArray) ∧ Ext w w' := by
  refine calls_W Tryz.func242 rfl Tryz.ntmps242 rfl ?_
  (refine W_seq ?_; refine W_region ?_)
  refine L_box rfl ?_
  intro g1 w1 B1 hg1 E1 hs1
  refine L_alloc ?_
  intro g3 w3 B3 hg3 E3 hs3
  have Ea := E1.trans E3
  have C1 := B1.ext E3
  (refine L_nil ?_; refine tn ?_; refine W_seq ?_)
  apply W_dagE 7 (by kernel_rfl)
  (apply DW_x (fun r w hA hH => (X_fld rfl).trans rfl); apply DW_x (fun r w hA hH => (X_ld rfl (C1.ext hA) rfl).trans rfl); apply DW_x (fun r w hA hH => (X_move (v := .int _ _) rfl).trans rfl))
  ((with_reducible apply DW_fn); (exact fun _ => rfl); (exact fun _ => rfl); (exact fun r w hA hH => gmul x.a y w))
  (apply DW_x (fun r w hA hH => (X_fld rfl).trans rfl); apply DW_x (fun r w hA hH => (X_ld rfl (C1.ext hA) rfl).trans rfl); apply DW_x (fun r w hA hH => (X_move (v := .int _ _) rfl).trans rfl))
  ((with_reducible exact D_end); (exact rfl); (repeat (first | exact .inr (.inr (fun _ _ => by with_reducible rfl)) | (refine And.intro ?_ ?_) | exact .inr (.inl rfl) | exact .inl (by decide +kernel) | exact trivial | exact .inr (.inr (fun _ _ => rfl)))); (try dsimp only [Nat.reduceAdd]))
  intro r w4 E4 H4
  refine L_fv rfl (gmul x.b y w4) ?_
  intro w5 E5
  have E7 := E4.trans E5
  refine Ls (X_mkEx (a := (x.a * y).val) (b := (x.b * y).val) rfl rfl) ?_
  rw [Fd.E.mul_of]
  refine L_storeW rfl rfl rfl exC_cell (B3.ext E7) rfl ?_
  intro wz Bz hgz _
  (refine L_nil ?_; refine tn ?_; refine W_ret ?_)
  refine endQ_res rfl rfl (Res.cellA inferInstance rfl (Bz.range (fun j u h => by simpa using h)) rfl .nil) ?_
  exact ⟨rfl, (Ea.trans E7).then hgz (fun g h => by cases h; have := E1.size; omega)⟩
theorem gmixed (x : E) (y : K) (w : World) :
    Calls Tryz.prog 241 #[kv y, .agg (xc x).toArray] w fun e w' => e = .returned (.agg (xc (x * Fd.E.of y)).toArray) ∧ Ext w w' := by
  refine calls_W Tryz.func241 rfl Tryz.ntmps241 rfl ?_
  (refine W_seq ?_; refine W_region ?_)
  refine L_box rfl ?_
  intro g1 w1 B1 hg1 E1 hs1
  refine L_alloc ?_
  intro g3 w3 B3 hg3 E3 hs3
  have Ea := E1.trans E3
  have C1 := B1.ext E3
  (refine L_nil ?_; refine tn ?_; refine W_seq ?_; refine W_region ?_; refine Ls (X_ldW rfl C1 rfl) ?_; refine Ls (X_move (v := .int _ _) rfl) ?_)
  refine L_fv rfl (gexmulb x y w3) ?_
  intro w4 E4
  refine L_storeW rfl rfl rfl exC_cell (B3.ext E4) rfl ?_
  intro wz Bz hgz _
  (refine L_nil ?_; refine tn ?_; refine W_ret ?_)
  refine endQ_res rfl rfl (Res.cellA inferInstance rfl (Bz.range (fun j u h => by simpa using h)) rfl .nil) ?_
  exact ⟨rfl, (Ea.trans E4).then hgz (fun g h => by cases h; have := E1.size; omega)⟩
end Go.Proofs.YtpohjepbmgeplaaGreatDoor

/- Rows of elements; polynomials: the reference's. -/
namespace Go.Proofs.YtpohjepbmgeplaaGreatDoor
open Go.RowKit Go.Proofs.K
open _root_.Fd (pr K E pw root)

/-! field pairs in a row -/
def exs (l : List (Nat × Nat)) : List Value := (l.map fun p => exC p.1 p.2).flatten
theorem exs_len (l : List (Nat × Nat)) : (exs l).length = l.length * 2 := by
  induction l with
  | nil => rfl
  | cons p l ih => simp only [exs, List.map_cons, List.flatten_cons, List.length_append, List.length_cons] at ih ⊢; rw [ih]; simp [exC]; omega
theorem exs_app (a b : List (Nat × Nat)) : exs (a ++ b) = exs a ++ exs b := by simp [exs]
theorem exs_cell {l : List (Nat × Nat)} : ∀ v ∈ exs l, v.oneCell' = true := by
  intro v hv
  obtain ⟨c, hc, hv⟩ := List.mem_flatten.1 hv
  obtain ⟨p, _, rfl⟩ := List.mem_map.1 hc
  exact exC_cell v hv
theorem exs_get {l : List (Nat × Nat)} {i : Nat} {p : Nat × Nat} (h : l[i]? = some p) : (exs l)[i * 2]? = some (.int .u64 (p.1 : Nat)) ∧ (exs l)[i * 2 + 1]? = some (.int .u64 (p.2 : Nat)) := by
  induction l generalizing i with
  | nil => simp at h
  | cons q l ih =>
    have e : exs (q :: l) = [.int .u64 (q.1 : Nat), .int .u64 (q.2 : Nat)] ++ exs l := by simp [exs, exC]
    cases i with
    | zero => simp at h; subst h; rw [e]; exact ⟨rfl, rfl⟩
    | succ i =>
      have := ih (i := i) (by simpa using h)
      rw [e, List.getElem?_append_right (by simp; omega), List.getElem?_append_right (by simp; omega)]
      simp only [List.length_cons, List.length_nil]
      rw [show (i + 1) * 2 - (0 + 1 + 1) = i * 2 by omega, show (i + 1) * 2 + 1 - (0 + 1 + 1) = i * 2 + 1 by omega]
      exact this
/-- elements as pairs of numbers -/
def raw (l : List E) : List (Nat × Nat) := l.map fun e => (e.a.val, e.b.val)
theorem raw_len (l : List E) : (raw l).length = l.length := by unfold raw; rw [List.length_map]
theorem raw_get {l : List E} {i : Nat} {e : E} (h : l[i]? = some e) : (raw l)[i]? = some (e.a.val, e.b.val) := by unfold raw; rw [List.getElem?_map, h]; rfl
/-- an element of a row, to be read whole -/
theorem ex_at {w : World} {lo hi n : Nat} {A : Option Addr} {c : Nat} {l : List (Nat × Nat)} (hr : Row w lo hi 2 (.slice A n c) l.length (exs l)) {i : Nat} {p : Nat × Nat} (h : l[i]? = some p) :
    ∃ b o, A = some ⟨b, o, none⟩ ∧ n = l.length ∧ i < l.length ∧ l.length ≤ c ∧ lo ≤ b ∧ b < hi ∧ w.rangeAt b (o + i * 2) (exC p.1 p.2) := by
  have hi' := (List.getElem?_eq_some_iff.1 h).1
  obtain ⟨hl0, A', c', he, hc, hcm, hnn⟩ := hr
  cases he
  obtain ⟨b, o, rfl, hb1, hb2, hcell⟩ := hnn (by omega)
  obtain ⟨hx1, hx2⟩ := exs_get h
  refine ⟨b, o, rfl, rfl, hi', hc, hb1, hb2, ?_⟩
  intro j u hu
  have hj2 : j < 2 := (List.getElem?_eq_some_iff.1 hu).1
  rcases (show j = 0 ∨ j = 1 by omega) with rfl | rfl
  · rw [show u = .int .u64 (p.1 : Nat) from (Option.some.inj hu).symm]
    exact hcell _ _ hx1
  · rw [show u = .int .u64 (p.2 : Nat) from (Option.some.inj hu).symm]
    have := hcell _ _ hx2
    rwa [← Nat.add_assoc] at this
/-- Horner's rule -/
def hor (x : E) : List E → E
  | [] => 0
  | c :: l => hor x l * x + c
theorem hor_ev (x : K) : ∀ l, hor (E.of x) l = Fd.ev l x
  | [] => rfl
  | c :: l => by
    show hor (E.of x) l * E.of x + c = c + Fd.ev l x * E.of x
    rw [hor_ev x l, Fd.E.add_comm]
theorem hor_drop (x : E) {l : List E} {k : Nat} {c : E} (h : l[k]? = some c) : hor x (l.drop k) = hor x (l.drop (k + 1)) * x + c := by
  obtain ⟨hk, rfl⟩ := List.getElem?_eq_some_iff.1 h
  rw [List.drop_eq_getElem_cons hk]; rfl
end Go.Proofs.YtpohjepbmgeplaaGreatDoor

/- A range over a function with several parameters: the loop's rule. -/
namespace Go.Proofs.K
open Go.RowKit Go.Shelf
variable {P : Program} {n : NN} {Q : Exit → Fr → World → Prop} {f : Fr} {w : World} {ops : Array Oper} {rest : List Oper}

theorem Row.tightN {size : Nat} (hs : 0 < size) {w : World} {lo hi m : Nat} {v : Value} {xs : List Value} (h : Row w lo hi size v m xs) : Row w lo w.heap.size size v m xs := by
  obtain ⟨hl, A, c, he, hc, hcm, hn⟩ := h
  refine ⟨hl, A, c, he, hc, hcm, fun h0 => ?_⟩
  obtain ⟨q, o, hA, h1, h2, h3⟩ := hn h0
  refine ⟨q, o, hA, h1, ?_, h3⟩
  have hx : 0 < xs.length := by rw [hl]; exact Nat.mul_pos h0 hs
  obtain ⟨c, t, fz, hcc⟩ := cells_of_cell (h3 0 xs[0] (List.getElem?_eq_getElem hx))
  exact (Array.getElem?_eq_some_iff.1 hcc).1
/-- the parameters of a round, laid -/
def updL (f : Fr) : List Tmp → List Value → Fr
  | p :: ps, v :: vs => updL (upd f p v) ps vs
  | _, _ => f
theorem arr_updL' {k : Nat} {ro : Option Nat} : ∀ (ps : List Tmp) (vs : List Value) (f : Fr), (ps.zip vs).foldl (fun (t : Array Value) (x : Tmp × Value) => t.setIfInBounds x.1 x.2) (arr ⟨k, [], none⟩ f) = arr ⟨k, [], ro⟩ (updL f ps vs)
  | [], _, _ => rfl
  | _ :: _, [], _ => rfl
  | p :: ps, v :: vs, f => by
    have := arr_updL' (k := k) (ro := ro) ps vs (upd f p v)
    rw [← arr_upd] at this
    exact this
theorem arr_updL {k : Nat} {ro : Option Nat} (ps : List Tmp) (vs : List Value) (f : Fr) : (ps.toArray.zip vs.toArray).foldl (fun (t : Array Value) (q, a) => t.setIfInBounds q a) (arr ⟨k, [], none⟩ f) = arr ⟨k, [], ro⟩ (updL f ps vs) := by
  rw [List.zip_toArray, ← arr_updL' ps vs f]
  exact List.foldl_toArray ..
/-- what an iterator is asked: it yields in the states 0, 1, ..; it ends where Fin holds, or a yield has said no -/
def IterL (P : Program) (gf : FuncId) (lb : Array Value) (w : World) (Pre : Nat → List Value → World → Prop) (Kp It Ix : World → World → Prop) (Fin : Nat → World → Prop) : Prop :=
  ∀ (l : Nat) (J : Nat → World → Prop) (Jx : World → Prop) (w1 : World), Ext w w1 →
    (∀ i a b, J i a → It a b → J i b) → (∀ a b, Jx a → Ix a b → Jx b) →
    (∀ i v a, J i a → Pre i v a → YieldAt Fence.wide 8 P l v.toArray a fun e b => (e = .returned (.bool true) ∧ J (i + 1) b ∧ Kp a b) ∨ (e = .returned (.bool false) ∧ Jx b)) →
    J 0 w1 → Calls P gf (#[yieldV l] ++ lb) w1 fun e b => (∃ v, e = .returned v) ∧ ((∃ i, Fin i b ∧ J i b) ∨ Jx b)
theorem T_rangeL {k id : Nat} {fn : Func} {R : Ending → World → Prop} {g : Operand} {ps : List Tmp} {assign body d : Code} {gf : FuncId} {lb : Array Value}
    (hg : ev ⟨k, [], none⟩ f g = .func (.func gf) #[] lb) (he : Enters P gf)
    {Pre : Nat → List Value → World → Prop} {Kp It Ix : World → World → Prop} {Fin : Nat → World → Prop} (hlen : ∀ i vs a, Pre i vs a → vs.length = ps.length) (hit : IterL P gf lb w Pre Kp It Ix Fin)
    (hKt : ∀ a b c, Kp a b → Kp b c → Kp a c) (hKb : ∀ a l o o', w.heap.size ≤ l → a.heap[l]? = some o → o.isCells = false → Kp a (a.putObj l o'))
    (hIt : ∀ a b, It a b → KeepsFrom w.heap.size a b) (hIx : ∀ a b, Ix a b → KeepsFrom w.heap.size a b)
    (Inv : Nat → World → Prop) (Stop : World → Prop) (hI : ∀ i a b, Inv i a → It a b → Inv i b) (hIb : ∀ i a b, Inv i a → Book w.heap.size a b → Inv i b)
    (hS : ∀ a b, Stop a → Ix a b → Stop b) (hSb : ∀ a b, Stop a → Book w.heap.size a b → Stop b) (hFb : ∀ i a b, Fin i a → Book w.heap.size a b → Fin i b)
    (h0 : Inv 0 w) (GA : Nat → List Value → World → Fr → World → Prop) (hGA : ∀ i v a f' b, GA i v a f' b → Ext a b) (hKE : ∀ a b, Ext a b → Kp a b)
    (hassign : ∀ l v i a, Inv i a → Pre i v a → W P ⟨k, [], some l⟩ assign (fun e f' b => e = .normal ∧ GA i v a f' b) (updL f ps v) a)
    (hbody : ∀ l i v a f' b c, Inv i a → Pre i v a → GA i v a f' b → Book w.heap.size b c → W P ⟨k, [], some l⟩ body (roundQ id w.heap.size (fun b => Kp c b ∧ Inv (i + 1) b) Stop c) f' c)
    (hdone : ∀ D b, w.heap.size ≤ D → ((∃ i, Fin i b ∧ Inv i b) ∨ Stop b) → b.heap[D]? = some (.deferred (some [])) → T P ⟨k, [{ target := .collected D, args := #[] }], none⟩ fn R d f b) :
    TB P ⟨k, [], none⟩ fn R (.block id (.rangeFunc g ps.toArray assign body)) d f w := by
  refine wpIn_block (wpIn_rangeFunc fun fn' hfn => ?_)
  obtain ⟨rec, hrec⟩ : ∃ rec : LoopState → Option Code → Loop, rec = fun st pe => { state := st, pending := pe, fn := fn', tmps := arr ⟨k, [], none⟩ f, params := ps.toArray, assign, body, defers := w.heap.size } := ⟨_, rfl⟩
  obtain ⟨wl, hwl⟩ : ∃ wl, (w.alloc (.deferred (some []))).alloc (.loop (rec .ready none)) = wl := ⟨_, rfl⟩
  have hL1 : wl.heap[w.heap.size + 1]? = some (.loop (rec .ready none)) := by
    rw [← hwl]; have := World.alloc_heap_new (w.alloc (.deferred (some []))) (.loop (rec .ready none)); rwa [World.size_alloc] at this
  have hK1 : wl.heap[w.heap.size]? = some (.deferred (some [])) := by
    rw [← hwl]; exact (Below.heap_alloc _ _ _ (by simp)).trans (World.alloc_heap_new w _)
  have hE1 : Ext w wl := by rw [← hwl]; exact (grown_alloc w _).trans (grown_alloc _ _)
  have hI1 : Inv 0 wl := by rw [← hwl]; exact hIb _ _ _ (hIb _ _ _ h0 (Book.alloc _ _)) (Book.alloc _ _)
  refine ⟨w.heap.size + 1, [{ target := .collected w.heap.size, args := #[] }], wl, { target := .fn (.func gf) lb, args := #[yieldV (w.heap.size + 1)] }, wl, gf, #[yieldV (w.heap.size + 1)] ++ lb, wl, ?_, ?_, ?_, ?_, fun _ => by omega, ?_⟩
  · rw [← hwl, hrec]; exact run_enterLoop_outer _ _ _ _ _
  · rw [act_eval]
    simp only [resolve, hg]
    simp [yieldV, ev, go_sem]
  · exact fun _ _ => trivial
  · exact he _ _
  · have heq : ∀ st pe, (rec st pe).fn = fn' ∧ (rec st pe).tmps = arr ⟨k, [], none⟩ f ∧ (rec st pe).params = ps.toArray ∧ (rec st pe).assign = assign ∧ (rec st pe).body = body ∧ (rec st pe).state = st ∧ (rec st pe).pending = pe := fun st pe => by rw [hrec]; exact ⟨rfl, rfl, rfl, rfl, rfl, rfl, rfl⟩
    have hst : ∀ st pe st', ({ rec st pe with state := st' } : Loop) = rec st' pe := fun st pe st' => by rw [hrec]
    have hst2 : ∀ st pe st' pe', ({ rec st pe with state := st', pending := pe' } : Loop) = rec st' pe' := fun st pe st' pe' => by rw [hrec]
    have hlb : w.heap.size ≤ w.heap.size + 1 := by omega
    refine n9.1 ((hit (w.heap.size + 1)
      (fun i a => Inv i a ∧ a.heap[w.heap.size + 1]? = some (.loop (rec .ready none)) ∧ a.heap[w.heap.size]? = some (.deferred (some [])))
      (fun a => Stop a ∧ a.heap[w.heap.size + 1]? = some (.loop (rec .done (some (.exit id)))) ∧ a.heap[w.heap.size]? = some (.deferred (some [])))
      wl hE1
      (fun i a b h hi => ⟨hI i a b h.1 hi, (hIt a b hi).same _ _ hlb h.2.1 rfl, (hIt a b hi).same _ _ (Nat.le_refl _) h.2.2 rfl⟩)
      (fun a b h hi => ⟨hS a b h.1 hi, (hIx a b hi).same _ _ hlb h.2.1 rfl, (hIx a b hi).same _ _ (Nat.le_refl _) h.2.2 rfl⟩)
      ?_ ⟨hI1, hL1, hK1⟩).mono ?_)
    · rintro i v a ⟨hi, hl, hk⟩ hp
      have hlt : w.heap.size + 1 < a.heap.size := (Array.getElem?_eq_some_iff.1 hl).1
      have hy := run_yield (P := P) (args := v.toArray) hl (by rw [(heq _ _).2.2.1]; simp [hlen i v a hp])
      rw [(heq _ _).1, (heq _ _).2.1, (heq _ _).2.2.1, (heq _ _).2.2.2.1, (heq _ _).2.2.2.2.1] at hy
      refine ⟨fn', _, assign, body, hy, roundIn_of_wpIn hfn ?_⟩
      have htm : (ps.toArray.zip v.toArray).foldl (fun (t : Array Value) (q, a) => t.setIfInBounds q a) (arr ⟨k, [], none⟩ f) = arr ⟨k, [], some (w.heap.size + 1)⟩ (updL f ps v) := arr_updL ps v f
      rw [htm]
      refine wpIn_any (m := 9) rfl (wpIn_mono (hassign (w.heap.size + 1) v i a hi hp) ?_)
      rintro e a1 w1 ⟨f', rfl, rfl, hga⟩
      have hE := hGA _ _ _ _ _ hga
      have hl := (hE.block _ (Array.getElem?_eq_some_iff.1 hl).1 (by simp)).trans hl
      have hk := (hE.block _ (Array.getElem?_eq_some_iff.1 hk).1 (by simp)).trans hk
      have hlt : w.heap.size + 1 < w1.heap.size := (Array.getElem?_eq_some_iff.1 hl).1
      refine ⟨_, run_beginRound hl (heq _ _).2.2.2.2.2.1, ?_⟩
      rw [hst]
      have hbk : Book w.heap.size w1 (w1.putObj (w.heap.size + 1) (.loop (rec .busy none))) := Book.put _ hlb hl rfl
      have hl2 : (w1.putObj (w.heap.size + 1) (.loop (rec .busy none))).heap[w.heap.size + 1]? = some (.loop (rec .busy none)) := World.putObj_heap_same hlt
      have hk2 : (w1.putObj (w.heap.size + 1) (.loop (rec .busy none))).heap[w.heap.size]? = some (.deferred (some [])) := (World.putObj_heap_other (by omega)).trans hk
      have hw2 := hKb w1 (w.heap.size + 1) _ (.loop (rec .busy none)) hlb hl rfl
      refine wpIn_any (m := 9) rfl (wpIn_mono (hbody (w.heap.size + 1) i v a f' w1 _ hi hp hga hbk) ?_)
      have fin : ∀ (jump : Option Code) (c : World), KeepsFrom w.heap.size (w1.putObj (w.heap.size + 1) (.loop (rec .busy none))) c →
          (Instr.endRound (w.heap.size + 1) jump).run P c = .ok (.bool jump.isNone) (c.putObj (w.heap.size + 1) (.loop (rec (if jump.isNone then .ready else .done) jump))) ∧
          c.heap[w.heap.size + 1]? = some (.loop (rec .busy none)) ∧
          (c.putObj (w.heap.size + 1) (.loop (rec (if jump.isNone then .ready else .done) jump))).heap[w.heap.size + 1]? = some (.loop (rec (if jump.isNone then .ready else .done) jump)) ∧
          (c.putObj (w.heap.size + 1) (.loop (rec (if jump.isNone then .ready else .done) jump))).heap[w.heap.size]? = some (.deferred (some [])) := fun jump c hc => by
        have hl3 := hc.same _ _ hlb hl2 rfl
        have := run_endRound (P := P) jump hl3
        rw [hst2] at this
        exact ⟨this, hl3, World.putObj_heap_same (Array.getElem?_eq_some_iff.1 hl3).1, (World.putObj_heap_other (by omega)).trans (hc.same _ _ (Nat.le_refl _) hk2 rfl)⟩
      rintro e a3 w3 ⟨f3, rfl, hq⟩
      cases e with
      | normal =>
        obtain ⟨hc, hkp, hi3⟩ := hq
        obtain ⟨hr, hl3, hl4, hk4⟩ := fin none w3 hc
        exact ⟨_, _, hr, .inl ⟨rfl, ⟨hIb _ _ _ hi3 (Book.put _ hlb hl3 rfl), hl4, hk4⟩, hKt _ _ _ (hKE _ _ hE) (hKt _ _ _ (hKt _ _ _ hw2 hkp) (hKb _ _ _ _ hlb hl3 rfl))⟩⟩
      | exit id' =>
        obtain ⟨rfl, hc, hs3⟩ := hq
        obtain ⟨hr, hl3, hl4, hk4⟩ := fin (some (.exit id')) w3 hc
        exact ⟨_, _, hr, .inr ⟨rfl, hSb _ _ hs3 (Book.put _ hlb hl3 rfl), hl4, hk4⟩⟩
      | ret => exact hq.elim
      | goto t => exact hq.elim
      | panic ch => exact hq.elim
      | outgrown => exact hq.elim
    · rintro e b ⟨⟨v, rfl⟩, h⟩
      rcases h with ⟨i, hf, hi, hl, hk⟩ | ⟨hs, hl, hk⟩
      · refine ⟨none, _, by have := run_endLoop (P := P) hl (by rw [(heq _ _).2.2.2.2.2.1]; simp); rw [hst, (heq _ _).2.2.2.2.2.2] at this; exact this, ?_⟩
        have hbk : Book w.heap.size b (b.putObj (w.heap.size + 1) (.loop (rec .exhausted none))) := Book.put _ hlb hl rfl
        exact hdone w.heap.size _ (Nat.le_refl _) (.inl ⟨i, hFb _ _ _ hf hbk, hIb _ _ _ hi hbk⟩) ((World.putObj_heap_other (by omega)).trans hk)
      · refine ⟨some (.exit id), _, by have := run_endLoop (P := P) hl (by rw [(heq _ _).2.2.2.2.2.1]; simp); rw [hst, (heq _ _).2.2.2.2.2.2] at this; exact this, ?_⟩
        have hbk : Book w.heap.size b (b.putObj (w.heap.size + 1) (.loop (rec .exhausted (some (.exit id))))) := Book.put _ hlb hl rfl
        refine wpIn_exit ?_
        simp only [Exit.inBlock, if_true]
        exact hdone w.heap.size _ (Nat.le_refl _) (.inr (hSb _ _ hs hbk)) ((World.putObj_heap_other (by omega)).trans hk)
section
variable {d : Tmp} {t ty e : TypeId} {pos : String} {af : Array Edge} {x : Operand}
/-- a slice with one element of several cells -/
theorem L_litA {z l : List Value} [TSlice P ty e] [TZero P e z] (hx : ev n f x = .agg l.toArray) (hl : l.length = z.length) (hz : Nat.ble (1 * z.length) 65536 = true)
    (h : ∀ u w', Row w' w.heap.size (w.heap.size + 1) z.length u 1 l → Ext w w' → w'.heap.size = w.heap.size + 1 → L P n ops Q rest (upd f d u) w') :
    L P n ops Q (⟨some d, .buildSlice ty 1 #[(0, x)], t, pos, af, none⟩ :: rest) f w :=
  Ls (X_lits (r := [(0, x)]) (zs' := [l]) (cs := l) (Parts.cons (c := l) (z := z) hx rfl rfl hl (Parts.nil _)) hz (by simp)) (h _ _ (Row.lit w e z.length 1 l (by omega) (by unfold maxLen; omega)) (grown_alloc _ _) (by simp))
end
end Go.Proofs.K
