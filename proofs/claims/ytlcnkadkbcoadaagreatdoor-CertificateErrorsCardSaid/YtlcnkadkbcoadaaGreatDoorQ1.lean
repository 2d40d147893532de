/- K1, K2, K3, K4, K5, K6, K7, K8, K9, KA, KB, KC, KD, KE, KF, KG, KH. -/
import Derived.WalkKit
import Derived.Below
import Derived.RangeFuncWrites
import Derived.RangeFuncCalls
import Derived.RangeFuncLeaves
import Derived.TacticsIn
import Derived.WalkSpells
import Derived.WalkLawsBesides
import Derived.Deep.MidRow
import Derived.ChangeKeysEq
import Derived.Deep.Draws
import Derived.Maps.AppendAt
import Derived.Laws.OwnMore
import Derived.Lib.ConvBytes
import Derived.Laws.BytesArg
import Derived.DeepKeys
import Derived.Lib.AppendStr
import Derived.Shelf.Abstract
import Derived.Laws.CopyRow
import Derived.Laws.Cover3
import Derived.Lib.AppendZeros
import Derived.Maps.OwnSet
theorem Y {α : Sort _} {a : α} : a = a := rfl
namespace Go.Proofs.K
open Go.RowKit
structure NN where
 k:Nat
 dv:List Deferred
 ro:Option Nat
def NN.fen (n:NN):Fence:=match n.ro with | none=>Fence.wide | some l=>Fence.wide.inRound l
theorem NN.fn (n:NN) (f:FuncId):n.fen.fn f:=by cases n with | mk k dv ro=>cases ro <;> exact trivial
theorem NN.dep (n:NN):n.fen.depth.isSome=true→1≤9:=fun _=>by omega
theorem NN.round (n:NN):n.fen.round=n.ro:=by cases n with | mk k dv ro=>cases ro <;> rfl
theorem NN.calls (n:NN) (m:Nat) {P:Program} {f:FuncId} {args:Array Value} {w:World} {R:Ending→World→Prop} (h:Calls P f args w R):CallsIn n.fen m P f args w R:=by
 cases n with
 | mk k dv ro=>cases ro with
   | none=>exact callsIn_wide.2 h
   | some l=>exact CallsIn.inRound l (callsIn_wide.2 h)
abbrev Fr:=Nat→Value
def upd (f:Fr) (d:Nat) (v:Value):Fr:=fun i=>bif Nat.beq i d then v else f i
def updo (f:Fr):Option Nat→Value→Fr
 | some d,v=>upd f d v
 | none,_=>f
def arr (n:NN) (f:Fr):Array Value:=Array.ofFn (fun i:Fin n.k=>f i)
def act (n:NN) (f:Fr):Act:=⟨arr n f,n.dv⟩
def ev (n:NN) (f:Fr):Operand→Value
 | .tmp t=>bif Nat.blt t n.k then f t else undef
 | .const v=>v
 | .global g=>.pointer (some ⟨g,0,none⟩)
 | .func f=>.func (.func f) #[] #[]
theorem blt_true {i n:Nat} (h:i < n):Nat.blt i n=true:=by simp [Nat.blt_eq,h]
theorem blt_false {i n:Nat} (h:¬ i < n):Nat.blt i n=false:=by
 cases hb:Nat.blt i n
 · rfl
 · rw [Nat.blt_eq] at hb;exact absurd hb h
theorem z0t {i n:Nat} (h:i ≠ n):Nat.beq i n=false:=by
 cases hb:Nat.beq i n
 · rfl
 · exact absurd (Nat.eq_of_beq_eq_true hb) h
theorem arr_size (n:NN) (f:Fr):(arr n f).size=n.k:=by simp [arr]
theorem arr_get? (n:NN) (f:Fr) (i:Nat):(arr n f)[i]?=if i < n.k then some (f i) else none:=by
 unfold arr;rw [Array.getElem?_ofFn];split <;> rfl
theorem q7o (n:NN) (f:Fr) (i:Nat):(arr n f).getD i undef=bif Nat.blt i n.k then f i else undef:=by
 rw [Array.getD_eq_getD_getElem?,arr_get?];by_cases h:i < n.k
 · simp [h,blt_true h]
 · simp [h,blt_false h]
theorem q7p (n:NN) (f:Fr):(act n f).eval=ev n f:=by
 funext x;cases x with
 | tmp t=>exact q7o n f t
 | _=>rfl
theorem z1m (f:Fr) (d:Nat) (v:Value):upd f d v d=v:=by simp [upd]
theorem z1w (f:Fr) {d i:Nat} (v:Value) (h:i ≠ d):upd f d v i=f i:=by simp [upd,z0t h]
theorem z2u (n:NN) (f:Fr) (d:Nat) (v:Value):(arr n f).setIfInBounds d v=arr n (upd f d v):=by
 apply Array.ext_getElem?;intro i;rw [Array.getElem?_setIfInBounds,arr_get?,arr_get?,arr_size];by_cases h:d=i
 · subst h;by_cases hn:d < n.k
   · simp [hn,z1m]
   · simp [hn]
 · rw [if_neg h,z1w _ _ (fun e=>h e.symm)]
theorem act_put (n:NN) (f:Fr) (d:Option Nat) (v:Value):(act n f).put d v=act n (updo f d v):=by
 cases d with
 | none=>rfl
 | some d=>simp [Act.put,act,updo,z2u]
theorem z1l (f:Fr) (d:Nat):upd f d (f d)=f:=by
 funext i;unfold upd;cases h:Nat.beq i d
 · rfl
 · have:=Nat.eq_of_beq_eq_true h;subst this;rfl
def lift (n:NN) (Q:Exit→Fr→World→Prop):Exit→Act→World→Prop:=fun e a w=>∃ f,a=act n f∧Q e f w
def W (P:Program) (n:NN) (c:Code) (Q:Exit→Fr→World→Prop) (f:Fr) (w:World):Prop:=c.wpIn n.fen 9 P (lift n Q) (act n f) w
variable {P:Program} {n:NN} {Q:Exit→Fr→World→Prop} {f:Fr} {w:World}
def q9b (K:Fr→World→Prop) (Q:Exit→Fr→World→Prop):Exit→Fr→World→Prop
 | .normal,f,w=>K f w
 | e,f,w=>Q e f w
def blockQ (id:Nat) (Q:Exit→Fr→World→Prop):Exit→Fr→World→Prop
 | .exit id',f,w=>bif Nat.beq id' id then Q .normal f w else Q (.exit id') f w
 | e,f,w=>Q e f w
theorem q6p {c:Code} {Q':Exit→Fr→World→Prop} (h:W P n c Q f w) (hq:∀ e f w,Q e f w→Q' e f w):W P n c Q' f w :=
 wpIn_mono h fun _ _ _ ⟨f,ha,hQ⟩=>⟨f,ha,hq _ _ _ hQ⟩
theorem q0b {c d:Code} (h:W P n c (q9b (W P n d Q) Q) f w):W P n (.seq c d) Q f w:=by
 refine wpIn_seq (wpIn_mono h ?_);rintro e a w ⟨f,rfl,hq⟩;cases e <;> first | exact hq | exact ⟨f,rfl,hq⟩
theorem q0p {id:Nat} {c:Code} (h:W P n c (blockQ id Q) f w):W P n (.block id c) Q f w:=by
 refine wpIn_block (wpIn_mono h ?_);rintro e a w ⟨f,rfl,hq⟩;cases e with
 | exit id' =>
   simp only [Exit.inBlock,blockQ] at hq ⊢;by_cases hi:id'=id
   · subst hi;simp at hq ⊢;exact ⟨f,rfl,hq⟩
   · have:Nat.beq id' id=false:=by
       cases hb:Nat.beq id' id
       · rfl
       · exact absurd (Nat.eq_of_beq_eq_true hb) hi
     simp [hi,this] at hq ⊢;exact ⟨f,rfl,hq⟩
 | _=>exact ⟨f,rfl,hq⟩
theorem q0l (h:Q .normal f w):W P n .skip Q f w:=wpIn_skip ⟨f,rfl,h⟩
theorem q1d {id:Nat} (h:Q (.exit id) f w):W P n (.exit id) Q f w:=wpIn_exit ⟨f,rfl,h⟩
theorem q0s (h:Q .ret f w):W P n .ret Q f w:=wpIn_ret ⟨f,rfl,h⟩
theorem q8j {c:Operand} {x y:Code} {b:Bool} (hc:ev n f c=.bool b) (ht:b=true→W P n x Q f w) (hf:b=false→W P n y Q f w):W P n (.cond c x y) Q f w :=
 wpIn_cond_split (by rw [q7p];exact hc) ht hf
theorem q0x {c:Operand} {x y:Code} {p:Prop} [Decidable p] (hc:ev n f c=.bool (decide p)) (ht:p→W P n x Q f w) (hf:¬ p→W P n y Q f w):W P n (.cond c x y) Q f w :=
 q8j hc (fun h=>ht (of_decide_eq_true h)) (fun h=>hf (of_decide_eq_false h))
theorem q1e {c:Code} (I:Nat→Fr→World→Prop) (m:Nat) (h0:I m f w)
   (round:∀ m f w,I m f w→W P n c (q9b (fun f' w'=>∃ m',m' < m∧I m' f' w') Q) f w):W P n (.loop c) Q f w:=by
 intro b k cs hro hb hr;have key:∀ m f w,I m f w→∃ e a' w',lift n Q e a' w'∧ArrivesIn (Machine.fenced P n.fen) P (lone (b.atR (act n f) (.code c :: .inLoop c :: k)) cs w) b k cs e a' w':=by
   intro m;induction m using Nat.strongRecOn with
   | _ m ih =>
     intro f w hI;obtain ⟨e,a1,w1,⟨f1,rfl,hq⟩,harr⟩:=round m f w hI b (.inLoop c :: k) cs hro hb hr;cases e with
     | normal =>
       obtain ⟨m',hlt,hI'⟩:=hq;obtain ⟨e2,a2,w2,hq2,harr2⟩:=ih m' hlt f1 w1 hI';exact ⟨e2,a2,w2,hq2,.of_steps (StepsIn.trans harr (.one (fenced_calm hb hr Y) stepR_inLoop)) harr2⟩
     | exit id=>exact ⟨_,_,w1,⟨f1,rfl,hq⟩,.pass (x:=.inLoop c) Y (fun _ _=>.inl (by simp)) harr⟩
     | goto l=>exact ⟨_,_,w1,⟨f1,rfl,hq⟩,.pass (x:=.inLoop c) Y (fun _ _=>.inl (by simp)) harr⟩
     | ret=>exact ⟨_,_,w1,⟨f1,rfl,hq⟩,.pass (x:=.inLoop c) Y (fun _ _=>.inl (by simp)) harr⟩
     | panic ch=>exact ⟨_,_,w1,⟨f1,rfl,hq⟩,.pass (x:=.inLoop c) Y (fun _ _=>.inl (by simp)) harr⟩
     | outgrown=>exact ⟨_,_,w1,⟨f1,rfl,hq⟩,.pass (x:=.inLoop c) Y (fun _ _=>.inl (by simp)) harr⟩
 obtain ⟨e,a',w',hq,harr⟩:=key _ f w h0;exact ⟨e,a',w',hq,.of_steps (.one (fenced_calm hb hr Y) stepR_loop) harr⟩
def fr0 (args:Array Value):Fr:=fun i=>args.getD i undef
theorem arr_fr0 (args:Array Value) (n:NN) (h:args.size≤n.k):args++Array.replicate (n.k - args.size) undef=arr n (fr0 args):=by
 apply Array.ext_getElem?;intro i;rw [arr_get?,Array.getElem?_append];by_cases h1:i < args.size
 · rw [if_pos h1,if_pos (by omega)];simp [fr0,Array.getD_eq_getD_getElem?,h1]
 · rw [if_neg h1,Array.getElem?_replicate];by_cases h2:i < n.k
   · rw [if_pos (by omega),if_pos h2];simp [fr0,Array.getD_eq_getD_getElem?,h1]
   · rw [if_neg (by omega),if_neg h2]
def q7s (P:Program) (fn:Func) (R:Ending→World→Prop) (tm:Array Value):List Deferred→World→Prop
 | [],w=>∃ v,(results fn tm).run P w=.ok v w∧R (.returned v) w
 | d :: ds,w=>∃ D,d={ target:=.collected D,args:=#[] }∧w.heap[D]?=some (.deferred (some []))∧q7s P fn R tm ds (w.putObj D (.deferred none))
def endQ (P:Program) (n:NN) (fn:Func) (R:Ending→World→Prop):Exit→Fr→World→Prop
 | .normal,f,w | .ret,f,w=>q7s P fn R (arr n f) n.dv w
 | .panic ch,_,w=>n.dv=[]∧R (.panicked ch) w
 | .outgrown,_,w=>R .outgrown w
 | _,_,_=>False
def T (P:Program) (n:NN) (fn:Func) (R:Ending→World→Prop) (c:Code) (f:Fr) (w:World):Prop:=c.wpIn n.fen 9 P (bodyPostM n.fen 9 P fn R) (act n f) w
theorem q7k {F:Fence} {fn:Func} {R:Ending→World→Prop} {tm:Array Value}:∀ (ds:List Deferred) (w:World),q7s P fn R tm ds w→LeavesInM F 9 P fn tm R ds .returning w
 | [],w,⟨v,h1,h2⟩=>⟨v,h1,h2⟩
 | d :: ds,w,⟨D,hd,hk,h⟩=>by
   subst hd;exact ⟨by simp,.inl ⟨D,_,rfl,run_takeDeferred hk,q7k ds _ h⟩⟩
theorem q6y {fn:Func} {R:Ending→World→Prop} (e:Exit) (a:Act) (w:World) (h:lift n (endQ P n fn R) e a w):bodyPostM n.fen 9 P fn R e a w:=by
 obtain ⟨f,rfl,hq⟩:=h;cases e with
 | normal=>exact q7k _ _ hq
 | ret=>exact q7k _ _ hq
 | panic ch =>
   show LeavesInM n.fen 9 P fn (arr n f) R n.dv (.panicking ch) w;rw [hq.1];exact hq.2
 | outgrown=>exact hq
 | exit id=>exact hq.elim
 | goto l=>exact hq.elim
theorem T_of_W {fn:Func} {R:Ending→World→Prop} {c:Code} (h:W P n c (endQ P n fn R) f w):T P n fn R c f w:=wpIn_mono h q6y
theorem z3k {fn:Func} {R:Ending→World→Prop} {c d:Code} (h:W P n c (q9b (T P n fn R d) (endQ P n fn R)) f w):T P n fn R (.seq c d) f w:=by
 refine wpIn_seq (wpIn_mono h ?_);rintro e a w ⟨f,rfl,hq⟩;cases e with
 | normal=>exact hq
 | ret=>exact q6y .ret _ _ ⟨f,rfl,hq⟩
 | panic ch=>exact q6y (.panic ch) _ _ ⟨f,rfl,hq⟩
 | outgrown=>exact hq
 | exit id=>exact hq.elim
 | goto l=>exact hq.elim
theorem z0s {id k:Nat} {fn:Func} {c:Code} {args:Array Value} {R:Ending→World→Prop} (hf:P.funcs[id]?=some fn) (hb:fn.body=some c) (hn:fn.ntmps=k) (hs:Nat.ble args.size k=true)
   (h:T P ⟨k,[],none⟩ fn R c (fr0 args) w):Calls P id args w R:=by
 subst hn;refine (callsIn_wide (n:=9)).1 (callsIn_of_wp_marks hf hb trivial ?_);rw [arr_fr0 _ ⟨fn.ntmps,[],none⟩ (Nat.le_of_ble_eq_true hs)];exact h
theorem q0j {id k:Nat} {fn:Func} {c:Code} {args:Array Value} {R:Ending→World→Prop} (hf:P.funcs[id]?=some fn) (hb:fn.body=some c) (hn:fn.ntmps=k) (hs:Nat.ble args.size k=true)
   (h:W P ⟨k,[],none⟩ c (endQ P ⟨k,[],none⟩ fn R) (fr0 args) w):Calls P id args w R:=z0s hf hb hn hs (T_of_W h)
theorem q0f {fn:Func} {R:Ending→World→Prop} {t:Tmp} (hr:fn.results=#[.tmp t]) (hn:n.dv=[]) {v:Value} (hv:ev n f (.tmp t)=v) (h:R (.returned v) w):endQ P n fn R .ret f w:=by
 subst hv;show q7s P fn R (arr n f) n.dv w;rw [hn];exact ⟨_,results_tmp hr _ _ _,by rw [q7o];exact h⟩
theorem q6x {fn:Func} {R:Ending→World→Prop} (hr:fn.results=#[]) (hn:n.dv=[]) (h:R (.returned (.tuple #[])) w):endQ P n fn R .ret f w:=by
 show q7s P fn R (arr n f) n.dv w;rw [hn];exact ⟨_,results_none hr _ _ _,h⟩
theorem q1h {fn:Func} {R:Ending→World→Prop} (hr:fn.results=#[]) (hn:n.dv=[]) (h:R (.returned (.tuple #[])) w):endQ P n fn R .normal f w:=q6x (f:=f) hr hn h
theorem q2q {fn:Func} {R:Ending→World→Prop} {t u:Tmp} (hr:fn.results=#[.tmp t,.tmp u]) (hn:n.dv=[]) {v x:Value} (hv:ev n f (.tmp t)=v) (hx:ev n f (.tmp u)=x)
   (h:R (.returned (.tuple #[v,x])) w):endQ P n fn R .ret f w:=by
 subst hv;subst hx;show q7s P fn R (arr n f) n.dv w;rw [hn];exact ⟨_,results_tmp2 hr _ _ _,by rw [q7o,q7o];exact h⟩
def X (P:Program) (n:NN) (o:Oper) (f:Fr) (w:World):Result Next:=(execOp (ev n f) o).run P w
def RunR (ro:Option Nat) (P:Program) (Z:List PanicEntry→World→Prop) (K:Value→World→Prop):Result Next→Prop
 | .ok (.value v) w=>K v w
 | .ok .skip w=>K undef w
 | .ok (.enter f args) w=>Calls P f args w fun
   | .returned v,w'=>K v w'
   | .panicked c,w'=>Z c w'
   | _,_=>False
 | .halt (.panic v) w=>ro=none∧Z [{ v,recovered:=false }] w
 | .ok (.round l f tmps assign body) w=>ro=none∧RoundIn Fence.wide 8 P l f tmps assign body w fun
   | .returned v,w'=>K v w'
   | _,_=>False
 | _=>False
def RunZ (P:Program) (n:NN) (o:Oper) (f:Fr) (w:World) (Z:List PanicEntry→World→Prop) (K:Value→World→Prop):Prop:=RunR n.ro P Z K (X P n o f w)
def Run (P:Program) (n:NN) (o:Oper) (f:Fr) (w:World) (K:Value→World→Prop):Prop:=RunR n.ro P (fun _ _=>False) K (X P n o f w)
section
variable {o:Oper} {K:Value→World→Prop}
theorem q9e {v:Value} {w':World} (h:X P n o f w=.ok (.value v) w') (hk:K v w'):Run P n o f w K:=by
 unfold Run;rw [h];exact hk
theorem q8u {w':World} (h:X P n o f w=.ok .skip w') (hk:K undef w'):Run P n o f w K:=by
 unfold Run;rw [h];exact hk
theorem q8v {id:FuncId} {args:Array Value} {w':World} {R:Ending→World→Prop} (hr:X P n o f w=.ok (.enter id args) w') (hc:Calls P id args w' R)
   (h:∀ e w'',R e w''→∃ v,e=.returned v∧K v w''):Run P n o f w K:=by
 unfold Run;rw [hr];refine hc.mono fun e w'' hR=>?_;obtain ⟨v,rfl,hk⟩:=h e w'' hR;exact hk
theorem RunR.mono {ro:Option Nat} {Z Z':List PanicEntry→World→Prop} {K':Value→World→Prop} {r:Result Next} (h:RunR ro P Z K r) (hz:∀ c w',Z c w'→Z' c w') (hk:∀ v w',K v w'→K' v w'):RunR ro P Z' K' r:=by
 unfold RunR at h ⊢;split at h
 · exact hk _ _ h
 · exact hk _ _ h
 · refine h.mono fun e w' hh=>?_;cases e with
   | returned v=>exact hk _ _ hh
   | panicked c=>exact hz _ _ hh
   | outgrown=>exact hh.elim
 · exact ⟨h.1,hz _ _ h.2⟩
 · refine ⟨h.1,h.2.mono fun e w' hh=>?_⟩;cases e with
   | returned v=>exact hk _ _ hh
   | panicked c=>exact hh.elim
   | outgrown=>exact hh.elim
 · exact h.elim
theorem Run.mono {K':Value→World→Prop} (h:Run P n o f w K) (hk:∀ v w',K v w'→K' v w'):Run P n o f w K':=RunR.mono h (fun _ _ h=>h) hk
theorem Run.z {Z:List PanicEntry→World→Prop} (h:Run P n o f w K):RunZ P n o f w Z K:=RunR.mono h (fun _ _ h=>h.elim) (fun _ _ h=>h)
theorem RunZ_call {Z:List PanicEntry→World→Prop} {id:FuncId} {args:Array Value} {w':World} {R:Ending→World→Prop} (hr:X P n o f w=.ok (.enter id args) w') (hc:Calls P id args w' R)
   (h:∀ e w'',R e w''→(∃ v,e=.returned v∧K v w'')∨∃ c,e=.panicked c∧Z c w''):RunZ P n o f w Z K:=by
 unfold RunZ;rw [hr];refine hc.mono fun e w'' hR=>?_;rcases h e w'' hR with ⟨v,rfl,hk⟩ | ⟨c,rfl,hz⟩
 · exact hk
 · exact hz
theorem RunZ_halt {Z:List PanicEntry→World→Prop} {v:Value} {w':World} (hro:n.ro=none) (hr:X P n o f w=.halt (.panic v) w') (h:Z [{ v,recovered:=false }] w'):RunZ P n o f w Z K:=by
 unfold RunZ;rw [hr];exact ⟨hro,h⟩
theorem RunZ_sem {Z:List PanicEntry→World→Prop} (h:RunZ P n o f w Z K):o.semAt n.ro (ev n f)=execOp (ev n f) o:=by
 cases hro:n.ro with
 | none=>rfl
 | some l =>
 refine Oper.semAt_eq _ _ _ fun c hc=>?_;unfold RunZ X execOp at h;rw [hc,hro] at h;simp only [Sem.run_bind] at h;cases hr:(resolve (ev n f) c o.type).run P w with
 | ok d w'=>rw [hr] at h;simp [RunR] at h
 | halt x w'=>rw [hr] at h;cases x <;> simp [RunR] at h
theorem RunZ.wp {Z:List PanicEntry→World→Prop} (h:RunZ P n o f w Z K) {N:Act→World→Prop} {q:Exit→Act→World→Prop} (hn:∀ v w',K v w'→N (act n (updo f o.dst v)) w') (hz:∀ c w',Z c w'→q (.panic c) (act n f) w'):o.wpIn n.fen 9 P (act n f) w N q:=by
 refine ⟨fun _ _=>n.fn _,?_⟩;rw [q7p,n.round,RunZ_sem h];unfold RunZ at h;rw [show (execOp (ev n f) o).run P w=X P n o f w from rfl];generalize X P n o f w=r at h;have hp:∀ v w',K v w'→N ((act n f).put o.dst v) w':=fun v w' hk=>by rw [act_put];exact hn v w' hk
 unfold RunR at h;split at h
 · exact hp _ _ h
 · exact hp _ _ h
 · rw [Oper.uponIn_enter];refine ⟨n.dep,n.calls _ (h.mono fun e w' hh=>?_)⟩;cases e with
   | returned v=>exact hp _ _ hh
   | panicked c=>exact hz _ _ hh
   | outgrown=>exact hh.elim
 · rw [Oper.uponIn_panic];exact hz _ _ h.2
 · rw [Oper.uponIn_round];have hf:n.fen=Fence.wide:=(by unfold NN.fen;rw [h.1]);refine ⟨n.dep,?_⟩;rw [hf];refine h.2.mono fun e w' hh=>?_;cases e with
   | returned v=>exact hp _ _ hh
   | panicked c=>exact hh.elim
   | outgrown=>exact hh.elim
 · exact h.elim
theorem Run.wp (h:Run P n o f w K) {N:Act→World→Prop} {q:Exit→Act→World→Prop} (hn:∀ v w',K v w'→N (act n (updo f o.dst v)) w'):o.wpIn n.fen 9 P (act n f) w N q:=RunZ.wp (Z:=fun _ _=>False) h hn (fun _ _ h=>h.elim)
end
def q4a (n:NN) (ops:Array Oper) (f:Fr) (o:Oper):Bool:=Region.wanted o (yielded ops (arr n f))
def L (P:Program) (n:NN) (ops:Array Oper) (Q:Exit→Fr→World→Prop):List Oper→Fr→World→Prop
 | [],f,w=>Q .normal f w
 | o :: rest,f,w=>(q4a n ops f o=true→RunZ P n o f w (fun c w'=>Q (.panic c) f w') fun v w'=>L P n ops Q rest (updo f o.dst v) w')∧(q4a n ops f o=false→L P n ops Q rest (updo f o.dst undef) w)
variable {ops:Array Oper} {rest:List Oper}
theorem L_list:∀ (l:List Oper) (f:Fr) (w:World),L P n ops Q l f w→wpListIn n.fen 9 P ops (lift n Q) l (act n f) w
 | [],f,_,h=>⟨f,rfl,h⟩
 | o :: rest,f,w,h=>by
   unfold wpListIn;by_cases hw:q4a n ops f o=true
   · have h1:=h.1 hw;unfold q4a at hw;rw [if_pos (by exact hw)];exact RunZ.wp h1 (fun v w' h'=>L_list rest _ _ h') (fun c w' h'=>⟨f,rfl,h'⟩)
   · have hw':q4a n ops f o=false:=(by simpa using hw);have h1:=h.2 hw';unfold q4a at hw';rw [if_neg (by simpa [act] using hw'),act_put];exact ⟨fun _ _=>n.fn _,L_list rest _ _ h1⟩
theorem q0a {id:Nat} {l:List Oper} (h:L P n l.toArray Q l f w):W P n (.region id l.toArray false) Q f w:=wpIn_region_lit (L_list _ _ _ h)
theorem q0c (h:Q .normal f w):L P n ops Q [] f w:=h
theorem q5t {o:Oper} (hg:o.guard=none):q4a n ops f o=true:=by simp [q4a,Region.wanted,hg]
theorem L_run {o:Oper} (hg:o.guard=none) (h:Run P n o f w fun v w'=>L P n ops Q rest (updo f o.dst v) w'):L P n ops Q (o :: rest) f w :=
 ⟨fun _=>h.z,fun hw=>by rw [q5t hg] at hw;cases hw⟩
theorem L_runZ {o:Oper} (hg:o.guard=none) (h:RunZ P n o f w (fun c w'=>Q (.panic c) f w') fun v w'=>L P n ops Q rest (updo f o.dst v) w'):L P n ops Q (o :: rest) f w :=
 ⟨fun _=>h,fun hw=>by rw [q5t hg] at hw;cases hw⟩
theorem L_callZ {o:Oper} {id:FuncId} {args:Array Value} {w':World} {R:Ending→World→Prop} (hg:o.guard=none) (hr:X P n o f w=.ok (.enter id args) w') (hc:Calls P id args w' R)
   (h:∀ e w'',R e w''→(∃ v,e=.returned v∧L P n ops Q rest (updo f o.dst v) w'')∨∃ c,e=.panicked c∧Q (.panic c) f w''):L P n ops Q (o :: rest) f w:=L_runZ hg (RunZ_call hr hc h)
theorem L_halt {o:Oper} {v:Value} {w':World} (hg:o.guard=none) (hro:n.ro=none) (hr:X P n o f w=.halt (.panic v) w') (h:Q (.panic [{ v,recovered:=false }]) f w'):L P n ops Q (o :: rest) f w:=L_runZ hg (RunZ_halt hro hr h)
theorem L_val {o:Oper} {v:Value} {w':World} (hg:o.guard=none) (hr:X P n o f w=.ok (.value v) w') (h:L P n ops Q rest (updo f o.dst v) w'):L P n ops Q (o :: rest) f w:=L_run hg (q9e hr h)
theorem L_skip {o:Oper} {w':World} (hg:o.guard=none) (hr:X P n o f w=.ok .skip w') (h:L P n ops Q rest (updo f o.dst undef) w'):L P n ops Q (o :: rest) f w:=L_run hg (q8u hr h)
theorem L_call {o:Oper} {id:FuncId} {args:Array Value} {w':World} {R:Ending→World→Prop} (hg:o.guard=none) (hr:X P n o f w=.ok (.enter id args) w') (hc:Calls P id args w' R)
   (h:∀ e w'',R e w''→∃ v,e=.returned v∧L P n ops Q rest (updo f o.dst v) w''):L P n ops Q (o :: rest) f w:=L_run hg (q8v hr hc h)
theorem z1v {o:Oper} {j:Nat} {want:Bool} (hg:o.guard=some (j,want)):q4a n ops f o=(yielded ops (arr n f) j == some want):=by simp [q4a,Region.wanted,hg]
theorem L_on {o:Oper} (hw:q4a n ops f o=true) (h:Run P n o f w fun v w'=>L P n ops Q rest (updo f o.dst v) w'):L P n ops Q (o :: rest) f w :=
 ⟨fun _=>h.z,fun hw'=>by rw [hw] at hw';cases hw'⟩
theorem L_off {o:Oper} (hw:q4a n ops f o=false) (h:L P n ops Q rest (updo f o.dst undef) w):L P n ops Q (o :: rest) f w :=
 ⟨fun hw'=>(by rw [hw] at hw';cases hw'),fun _=>h⟩
end Go.Proofs.K
namespace Go.Proofs.K
open Go.RowKit
class TInt (P:Program) (t:TypeId) (k:outParam IntKind):Prop where h:P.underlying t=some (.int k)
class TStr (P:Program) (t:TypeId):Prop where h:P.underlying t=some .string
class TSlice (P:Program) (t:TypeId) (e:outParam TypeId):Prop where h:P.underlying t=some (.slice e)
class TArr (P:Program) (t:TypeId) (len:outParam Nat) (e:outParam TypeId):Prop where h:P.underlying t=some (.array len e)
class TMap (P:Program) (t:TypeId) (k e:outParam TypeId):Prop where h:P.underlying t=some (.map k e)
class TOne (P:Program) (t:TypeId):Prop where
 h:∃ d,P.underlying t=some d∧(match d with | .struct _ | .array _ _=>true | _=>false)=false
 s:(P.info? t).map (·.size)=some 1
class TAgg (P:Program) (t:TypeId) (size:outParam Nat):Prop where
 h:∃ d,P.underlying t=some d∧d.isRow=true
 s:(P.info? t).map (·.size)=some size
class TInfo (P:Program) (t:TypeId) (size bytes:outParam Nat) (zero:outParam Value):Prop where
 h:(P.info? t).map (fun i=>(i.zero,i.size,i.bytes))=some (some zero,size,bytes)
class TFld (P:Program) (t:TypeId) (k:Nat) (off ty:outParam Nat):Prop where
 h:∃ fs fld,P.underlying t=some (.struct fs)∧fs[k]?=some fld∧fld.offset=off∧fld.type=ty
 s:∃ i,P.info? ty=some i∧i.size ≠ 0
variable {P:Program} {n:NN} {Q:Exit→Fr→World→Prop} {f:Fr} {w:World} {ops:Array Oper} {rest:List Oper}
theorem Ls {d:Tmp} {op:Op} {t:TypeId} {pos:String} {af:Array Edge} {v:Value} {w':World} (hr:X P n ⟨some d,op,t,pos,af,none⟩ f w=.ok (.value v) w') (h:L P n ops Q rest (upd f d v) w') :
   L P n ops Q (⟨some d,op,t,pos,af,none⟩ :: rest) f w:=L_val Y hr h
theorem Ln {op:Op} {t:TypeId} {pos:String} {af:Array Edge} {w':World} (hr:X P n ⟨none,op,t,pos,af,none⟩ f w=.ok .skip w') (h:L P n ops Q rest f w') :
   L P n ops Q (⟨none,op,t,pos,af,none⟩ :: rest) f w:=L_skip Y hr h
section X
variable {d:Option Tmp} {t ty ty':TypeId} {pos:String} {af:Array Edge} {g:Option (Nat × Bool)} {x y:Operand} {k:IntKind} {a b:Int}
theorem q0d {v:Value} (hx:ev n f x=v):X P n ⟨d,.move x,t,pos,af,g⟩ f w=.ok (.value v) w:=by subst hx;rfl
theorem q0m {v:Value} (hx:ev n f x=v):X P n ⟨d,.assign x,t,pos,af,g⟩ f w=.ok (.value v) w:=by subst hx;rfl
theorem q8i (hx:ev n f x=.int k a) (hy:ev n f y=.int k b):X P n ⟨d,.binOp .add ty x y ty',t,pos,af,g⟩ f w=.ok (.value (.int k (k.wrap (a+b)))) w:=by
 simp [X,execOp,hx,hy,eqGuard_add,binOp_add,Op.intArith]
theorem X_sub (hx:ev n f x=.int k a) (hy:ev n f y=.int k b):X P n ⟨d,.binOp .sub ty x y ty',t,pos,af,g⟩ f w=.ok (.value (.int k (k.wrap (a - b)))) w:=by
 simp [X,execOp,hx,hy,eqGuard_sub,binOp_sub,Op.intArith]
theorem z3j (hx:ev n f x=.int k a) (hy:ev n f y=.int k b):X P n ⟨d,.binOp .mul ty x y ty',t,pos,af,g⟩ f w=.ok (.value (.int k (k.wrap (a * b)))) w:=by
 simp [X,execOp,hx,hy,eqGuard_mul,binOp_mul,Op.intArith]
theorem q1c (hx:ev n f x=.int .i64 a) (hy:ev n f y=.int .i64 b) (h:-9223372036854775808≤a+b∧a+b≤9223372036854775807):X P n ⟨d,.binOp .add ty x y ty',t,pos,af,g⟩ f w=.ok (.value (.int .i64 (a+b))) w:=by
 rw [q8i hx hy,IntWalk.i64_in _ h]
theorem q4h (hx:ev n f x=.int .i64 a) (hy:ev n f y=.int .i64 b) (h:-9223372036854775808≤a - b∧a - b≤9223372036854775807):X P n ⟨d,.binOp .sub ty x y ty',t,pos,af,g⟩ f w=.ok (.value (.int .i64 (a - b))) w:=by
 rw [X_sub hx hy,IntWalk.i64_in _ h]
theorem q5r (hx:ev n f x=.int .i64 a) (hy:ev n f y=.int .i64 b) (h:-9223372036854775808≤a * b∧a * b≤9223372036854775807):X P n ⟨d,.binOp .mul ty x y ty',t,pos,af,g⟩ f w=.ok (.value (.int .i64 (a * b))) w:=by
 rw [z3j hx hy,IntWalk.i64_in _ h]
theorem X_quo (hx:ev n f x=.int k a) (hy:ev n f y=.int k b) (hb:b ≠ 0):X P n ⟨d,.binOp .quo ty x y ty',t,pos,af,g⟩ f w=.ok (.value (.int k (k.wrap (a.tdiv b)))) w:=by
 simp [X,execOp,hx,hy,eqGuard_quo,binOp_quo,Op.intDiv,hb]
theorem X_rem (hx:ev n f x=.int k a) (hy:ev n f y=.int k b) (hb:b ≠ 0):X P n ⟨d,.binOp .rem ty x y ty',t,pos,af,g⟩ f w=.ok (.value (.int k (a.tmod b))) w:=by
 simp [X,execOp,hx,hy,eqGuard_rem,binOp_rem,Op.intDiv,hb]
theorem q4s (hx:ev n f x=.int k a) (hy:ev n f y=.int k b):X P n ⟨d,.binOp .and ty x y ty',t,pos,af,g⟩ f w=.ok (.value (.int k (bits .and k a b))) w:=by
 simp [X,execOp,hx,hy,eqGuard_and,binOp_and,intBits_and]
theorem X_or (hx:ev n f x=.int k a) (hy:ev n f y=.int k b):X P n ⟨d,.binOp .or ty x y ty',t,pos,af,g⟩ f w=.ok (.value (.int k (bits .or k a b))) w:=by
 simp [X,execOp,hx,hy,eqGuard_or,binOp_or,intBits_or]
theorem z2v (hx:ev n f x=.int k a) (hy:ev n f y=.int k b):X P n ⟨d,.binOp .xor ty x y ty',t,pos,af,g⟩ f w=.ok (.value (.int k (bits .xor k a b))) w:=by
 simp [X,execOp,hx,hy,eqGuard_xor,binOp_xor,intBits_xor]
theorem q5f {yk:IntKind} (hx:ev n f x=.int k a) (hy:ev n f y=.int yk b) (h0:0≤b):X P n ⟨d,.binOp .shr ty x y ty',t,pos,af,g⟩ f w=.ok (.value (.int k (a.fdiv (2 ^ (min b.toNat k.bits))))) w:=by
 have:¬ b < 0:=by omega
 simp [X,execOp,hx,hy,eqGuard_shr,binOp_shr,Op.shift,this]
theorem q7v {yk:IntKind} (hx:ev n f x=.int k a) (hy:ev n f y=.int yk b) (h0:0≤b):X P n ⟨d,.binOp .shl ty x y ty',t,pos,af,g⟩ f w=.ok (.value (.int k (k.wrap (a * 2 ^ (min b.toNat k.bits))))) w:=by
 have:¬ b < 0:=by omega
 simp [X,execOp,hx,hy,eqGuard_shl,binOp_shl,Op.shift,this]
theorem q2h (hx:ev n f x=.int k a) (hy:ev n f y=.int k b):X P n ⟨d,.binOp .lss ty x y ty',t,pos,af,g⟩ f w=.ok (.value (.bool (decide (a < b)))) w:=by
 simp [X,execOp,hx,hy,eqGuard_lss,binOp_lss]
theorem X_leq (hx:ev n f x=.int k a) (hy:ev n f y=.int k b):X P n ⟨d,.binOp .leq ty x y ty',t,pos,af,g⟩ f w=.ok (.value (.bool (decide (a≤b)))) w:=by
 simp [X,execOp,hx,hy,eqGuard_leq,binOp_leq]
theorem z3e (hx:ev n f x=.int k a) (hy:ev n f y=.int k b):X P n ⟨d,.binOp .gtr ty x y ty',t,pos,af,g⟩ f w=.ok (.value (.bool (decide (b < a)))) w:=by
 simp [X,execOp,hx,hy,eqGuard_gtr,binOp_gtr]
theorem X_geq (hx:ev n f x=.int k a) (hy:ev n f y=.int k b):X P n ⟨d,.binOp .geq ty x y ty',t,pos,af,g⟩ f w=.ok (.value (.bool (decide (b≤a)))) w:=by
 simp [X,execOp,hx,hy,eqGuard_geq,binOp_geq]
theorem z1i (hx:ev n f x=.int k a) (hy:ev n f y=.int k b):X P n ⟨d,.binOp .eql ty x y ty',t,pos,af,g⟩ f w=.ok (.value (.bool (decide (a=b)))) w:=by
 have:(a == b)=decide (a=b):=rfl;simp only [X,execOp,hx,hy,eqGuard_at_int,binOp_eql,this];rfl
theorem X_neq (hx:ev n f x=.int k a) (hy:ev n f y=.int k b):X P n ⟨d,.binOp .neq ty x y ty',t,pos,af,g⟩ f w=.ok (.value (.bool (decide (a ≠ b)))) w:=by
 have:(a != b)=decide (a ≠ b):=by by_cases h:a=b <;> simp [h]
 simp only [X,execOp,hx,hy,eqGuard_at_int,binOp_neq,this];rfl
theorem q1o {q:Bool} (hx:ev n f x=.bool q):X P n ⟨d,.unOp .not ty x,t,pos,af,g⟩ f w=.ok (.value (.bool (!q))) w:=by
 simp [X,execOp,hx,Op.unary]
theorem X_neg (hx:ev n f x=.int k a):X P n ⟨d,.unOp .neg ty x,t,pos,af,g⟩ f w=.ok (.value (.int k (k.wrap (0 - a)))) w:=by
 simp [X,execOp,hx,Op.unary,Op.intArith]
theorem X_inv (hx:ev n f x=.int k a):X P n ⟨d,.unOp .xor ty x,t,pos,af,g⟩ f w=.ok (.value (.int k (bits .xor k (if k.signed then -1 else k.max) a))) w:=by
 simp [X,execOp,hx,Op.unary,intBits_xor]
theorem q3d {k':IntKind} [hs:TInt P ty k'] [ht:TInt P ty' k] {k0:IntKind} (hx:ev n f x=.int k0 a):X P n ⟨d,.convert ty ty' x,t,pos,af,g⟩ f w=.ok (.value (.int k (k.wrap a))) w:=by
 simp [X,execOp,hx,convert,run_underlying hs.h,run_underlying ht.h,Conv.intToInt]
theorem q0n {l:List Value} {i:Nat} {v:Value} (hx:ev n f x=.tuple l.toArray) (hi:l[i]?=some v):X P n ⟨d,.extract x i,t,pos,af,g⟩ f w=.ok (.value v) w:=by
 simp [X,execOp,hx,Instr.extract,hi]
theorem q0i {e:TypeId} [hs:TSlice P ty e] {A:Option Addr} {m c:Nat} (hx:ev n f x=.slice A m c):X P n ⟨d,.call ⟨.builtin .len,#[x],#[ty]⟩,t,pos,af,g⟩ f w=.ok (.value (.int .i64 m)) w:=by
 simp [X,execOp,resolve,invoke,builtin,hx,Builtin.len_,run_underlying hs.h,goInt]
theorem q2d [hs:TStr P ty] {s:ByteArray} (hx:ev n f x=.string s):X P n ⟨d,.call ⟨.builtin .len,#[x],#[ty]⟩,t,pos,af,g⟩ f w=.ok (.value (.int .i64 s.size)) w:=by
 simp [X,execOp,resolve,invoke,builtin,hx,Builtin.len_,run_underlying hs.h,goInt]
theorem X_min (hx:ev n f x=.int k a) (hy:ev n f y=.int k b):X P n ⟨d,.call ⟨.builtin .min,#[x,y],#[ty,ty']⟩,t,pos,af,g⟩ f w=.ok (.value (.int k (if b < a then b else a))) w:=by
 simp [X,execOp,resolve,invoke,builtin,hx,hy,Builtin.min_,Builtin.min2]
theorem q0o {c:Operand} {v:Value} (hc:ev n f c=.bool true) (hx:ev n f x=v):X P n ⟨d,.pick c x y,t,pos,af,g⟩ f w=.ok (.value v) w:=by
 subst hx;simp only [X,execOp,hc,asBool];rfl
theorem q0k {c:Operand} {v:Value} (hc:ev n f c=.bool false) (hy:ev n f y=v):X P n ⟨d,.pick c x y,t,pos,af,g⟩ f w=.ok (.value v) w:=by
 subst hy;simp only [X,execOp,hc,asBool];rfl
theorem z0u [hs:TOne P ty] {ad:Addr} {v:Value} (hx:ev n f x=.pointer (some ad)) (hc:w.cell? ad=some v):X P n ⟨d,.load ty x,t,pos,af,g⟩ f w=.ok (.value v) w:=by
 obtain ⟨D,hD,hd⟩:=hs.h;simp [X,execOp,hx,Instr.loadAt,Instr.sureAddr,loadVar,isAgg,run_underlying hD,load,Sem.run];cases D <;> simp_all
theorem q2x {size:Nat} [hs:TAgg P ty size] {b o:Nat} {cs:List Value} (hx:ev n f x=.pointer (some ⟨b,o,none⟩)) (hc:w.rangeAt b o cs) (hl:cs.length=size):X P n ⟨d,.load ty x,t,pos,af,g⟩ f w=.ok (.value (.agg cs.toArray)) w:=by
 obtain ⟨D,hD,hd⟩:=hs.h;simp [X,execOp,hx,run_loadAt_mid w b o ty cs D hc hD hd (by rw [hs.s,hl])]
theorem q0g {k off ft:Nat} [hs:TFld P ty k off ft] {b o:Nat} (hx:ev n f x=.pointer (some ⟨b,o,none⟩)):X P n ⟨d,.fieldAddr ty x k,t,pos,af,g⟩ f w=.ok (.value (.pointer (some ⟨b,o+off,none⟩))) w:=by
 obtain ⟨fs,fld,hu,hf,ho,ht⟩:=hs.h;obtain ⟨i,hi,hz⟩:=hs.s;subst ho;subst ht;simp [X,execOp,hx,Instr.fieldAt,run_underlying hu,hf,Instr.sureAddr,fieldPlace,sizeOf,typeInfo,hi,hz,Addr.add_mid]
end X
section
variable {d:Tmp} {t:TypeId} {pos:String} {af:Array Edge} {x:Operand}
theorem m_I {k:IntKind} {i:Int} (hx:ev n f x=.int k i) (h:L P n ops Q rest (upd f d (.int k i)) w):L P n ops Q (⟨some d,.move x,t,pos,af,none⟩ :: rest) f w:=Ls (q0d hx) h
theorem m_S {A:Option Addr} {m c:Nat} (hx:ev n f x=.slice A m c) (h:L P n ops Q rest (upd f d (.slice A m c)) w):L P n ops Q (⟨some d,.move x,t,pos,af,none⟩ :: rest) f w:=Ls (q0d hx) h
theorem m_B {b:Bool} (hx:ev n f x=.bool b) (h:L P n ops Q rest (upd f d (.bool b)) w):L P n ops Q (⟨some d,.move x,t,pos,af,none⟩ :: rest) f w:=Ls (q0d hx) h
theorem m_P {A:Option Addr} (hx:ev n f x=.pointer A) (h:L P n ops Q rest (upd f d (.pointer A)) w):L P n ops Q (⟨some d,.move x,t,pos,af,none⟩ :: rest) f w:=Ls (q0d hx) h
theorem m_R {s:ByteArray} (hx:ev n f x=.string s) (h:L P n ops Q rest (upd f d (.string s)) w):L P n ops Q (⟨some d,.move x,t,pos,af,none⟩ :: rest) f w:=Ls (q0d hx) h
theorem m_T {a:Array Value} (hx:ev n f x=.tuple a) (h:L P n ops Q rest (upd f d (.tuple a)) w):L P n ops Q (⟨some d,.move x,t,pos,af,none⟩ :: rest) f w:=Ls (q0d hx) h
theorem a_I {k:IntKind} {i:Int} (hx:ev n f x=.int k i) (h:L P n ops Q rest (upd f d (.int k i)) w):L P n ops Q (⟨some d,.assign x,t,pos,af,none⟩ :: rest) f w:=Ls (q0m hx) h
theorem a_S {A:Option Addr} {m c:Nat} (hx:ev n f x=.slice A m c) (h:L P n ops Q rest (upd f d (.slice A m c)) w):L P n ops Q (⟨some d,.assign x,t,pos,af,none⟩ :: rest) f w:=Ls (q0m hx) h
theorem a_B {b:Bool} (hx:ev n f x=.bool b) (h:L P n ops Q rest (upd f d (.bool b)) w):L P n ops Q (⟨some d,.assign x,t,pos,af,none⟩ :: rest) f w:=Ls (q0m hx) h
theorem a_P {A:Option Addr} (hx:ev n f x=.pointer A) (h:L P n ops Q rest (upd f d (.pointer A)) w):L P n ops Q (⟨some d,.assign x,t,pos,af,none⟩ :: rest) f w:=Ls (q0m hx) h
theorem a_R {s:ByteArray} (hx:ev n f x=.string s) (h:L P n ops Q rest (upd f d (.string s)) w):L P n ops Q (⟨some d,.assign x,t,pos,af,none⟩ :: rest) f w:=Ls (q0m hx) h
end
end Go.Proofs.K
namespace Go.Proofs.K
open Go.RowKit
abbrev Ext (w w':World):Prop:=w.grownBy w' none
theorem Ext.refl (w:World):Ext w w:=⟨rfl,rfl,rfl,Nat.le_refl _,fun _ _ _=>rfl⟩
theorem Ext.then {w0 w w':World} {row:Option Nat} (E:Ext w0 w) (h:w.grownBy w' row) (hr:∀ g,row=some g→w0.heap.size≤g):Ext w0 w' :=
 ⟨h.os.trans E.os,h.tape.trans E.tape,h.output.trans E.output,Nat.le_trans E.size h.size,fun k hk hne =>
   (h.block k (Nat.lt_of_lt_of_le hk E.size) (fun e=>by have:=hr k e.symm;omega)).trans (E.block k hk hne)⟩
theorem Ext.trans {a b c:World} (E:Ext a b) (F:Ext b c):Ext a c:=E.then F (fun _ h=>by cases h)
theorem Ext.below {w w':World} (E:Ext w w'):Below w.heap.size w w':=⟨E.os,E.tape,E.output,E.size,fun k hk=>E.block k hk (by simp)⟩
theorem Ext.of_below {w w':World} (h:Below w.heap.size w w'):Ext w w':=⟨h.os,h.tape,h.output,h.size,fun k hk _=>h.block k hk⟩
theorem Ext.drew (w:World):Ext w w.drew:=⟨rfl,rfl,rfl,Nat.le_refl _,fun _ _ _=>rfl⟩
theorem Ext.cell {w w':World} (E:Ext w w') {a:Addr} {v:Value} (h:w.cell? a=some v):w'.cell? a=some v:=World.grownBy.cell E h (by simp)
theorem Ext.range {w w':World} (E:Ext w w') {b o:Nat} {cs:List Value} (h:w.rangeAt b o cs):w'.rangeAt b o cs:=fun j v hv=>E.cell (h j v hv)
def Blk (w:World) (g:Nat) (t:TypeId) (cs:List Value):Prop:=w.heap[g]?=some (.cells cs.toArray t (0,0))
section
variable {w w':World} {g:Nat} {t:TypeId} {cs:List Value}
theorem Blk.lt (h:Blk w g t cs):g < w.heap.size:=by
 rcases Nat.lt_or_ge g w.heap.size with hlt | hge
 · exact hlt
 · unfold Blk at h;rw [Array.getElem?_eq_none hge] at h;cases h
theorem Blk.cell (h:Blk w g t cs) (i:Nat):w.cell? ⟨g,i,none⟩=cs[i]?:=by
 rw [cell_of_row w g i cs.toArray t (0,0) h];simp
theorem Blk.grown {row:Option Nat} (h:Blk w g t cs) (hb:w.grownBy w' row) (hg:row ≠ some g):Blk w' g t cs:=(hb.block g h.lt (fun e=>hg e.symm)).trans h
theorem Blk.ext (h:Blk w g t cs) (hb:Ext w w'):Blk w' g t cs:=h.grown hb (by simp)
theorem Blk.range (h:Blk w g t cs) {o:Nat} {l:List Value} (hl:∀ j u,l[j]?=some u→cs[o+j]?=some u):w.rangeAt g o l:=fun j v hv=>by rw [h.cell];exact hl j v hv
theorem Blk.ne_ {g':Nat} {t':TypeId} {cs':List Value} (h:Blk w g t cs) (h':Blk w g' t' cs') (hne:t ≠ t'):g ≠ g':=by
 rintro rfl;unfold Blk at h h';rw [h] at h';injection h' with h';injection h' with _ ht;exact hne ht
end
def Row (w:World) (lo hi size:Nat) (v:Value) (n:Nat) (xs:List Value):Prop :=
 xs.length=n * size∧∃ A c,v=.slice A n c∧n≤c∧c≤maxLen∧(0 < n→∃ b o,A=some ⟨b,o,none⟩∧lo≤b∧b < hi∧w.rangeAt b o xs)
section
variable {w w':World} {lo hi size n:Nat} {v:Value} {xs:List Value}
theorem Row.nil (w:World) (lo hi size:Nat):Row w lo hi size (.slice none 0 0) 0 []:=⟨by simp,none,0,rfl,Nat.le_refl _,by simp,fun h=>absurd h (by omega)⟩
theorem Row.at {k:Nat} (h:Row w lo hi size v n xs) (hk:k < n):∃ b o c,v=.slice (some ⟨b,o,none⟩) n c∧n≤c∧lo≤b∧b < hi∧w.rangeAt b o xs:=by
 obtain ⟨hl,A,c,rfl,hc,_,hn⟩:=h;obtain ⟨b,o,rfl,h1,h2,h3⟩:=hn (by omega);exact ⟨b,o,c,rfl,hc,h1,h2,h3⟩
theorem Row.grown {row:Option Nat} (h:Row w lo hi size v n xs) (hg:w.grownBy w' row) (hr:∀ g,row=some g→g < lo∨hi≤g):Row w' lo hi size v n xs:=by
 obtain ⟨hl,A,c,rfl,hc,hm,hn⟩:=h;refine ⟨hl,A,c,rfl,hc,hm,fun h0=>?_⟩;obtain ⟨b,o,rfl,h1,h2,h3⟩:=hn h0;exact ⟨b,o,rfl,h1,h2,fun j u hu=>World.grownBy.cell hg (h3 j u hu) (fun e=>by have:=hr b e.symm;omega)⟩
theorem Row.ext (h:Row w lo hi size v n xs) (hg:Ext w w'):Row w' lo hi size v n xs:=h.grown hg (fun _ h=>by cases h)
theorem Row.wide {lo' hi':Nat} (h:Row w lo hi size v n xs) (h1:lo'≤lo) (h2:hi≤hi'):Row w lo' hi' size v n xs:=by
 obtain ⟨hl,A,c,rfl,hc,hm,hn⟩:=h;refine ⟨hl,A,c,rfl,hc,hm,fun h0=>?_⟩;obtain ⟨b,o,rfl,h3,h4,h5⟩:=hn h0;exact ⟨b,o,rfl,by omega,by omega,h5⟩
theorem Row.of_own {base e:Nat} (h:w.ownsRow base e size v n xs):Row w base w.heap.size size v n xs:=by
 refine ⟨h.1,?_⟩;rcases h.2 with ⟨rfl,rfl⟩ | ⟨g,cap,cur,rfl,hb,hg,hnc,hcm,hcs,ht⟩
 · exact ⟨none,0,rfl,Nat.le_refl _,by simp,fun h=>absurd h (by omega)⟩
 · refine ⟨some ⟨g,0,none⟩,cap,rfl,hnc,hcm,fun _=>⟨g,0,rfl,hb,(Array.getElem?_eq_some_iff.1 hg).1,fun j u hu=>?_⟩⟩;have:=h.cells (g:=g) Y j u hu;rwa [Addr.add_mid] at this
end
theorem q3e {w w':World} {base e size n:Nat} {v:Value} {xs:List Value} {row:Option Nat} (h:w.ownsRow base e size v n xs) (hg:w.grownBy w' row) (hr:∀ g,row=some g→g < base):w'.ownsRow base e size v n xs:=by
 refine h.kept hg ?_;cases hv:v.ownBlock with
 | none=>exact .inl Y
 | some k=>exact .inr (fun e=>by have:=hr k e.symm;have:=(h.lt k hv).1;omega)
theorem q1g {w w':World} {base e size n:Nat} {v:Value} {xs:List Value} (h:w.ownsRow base e size v n xs) (hg:Ext w w'):w'.ownsRow base e size v n xs:=q3e h hg (fun _ h=>by cases h)
theorem q2f {w:World} {base base' e size n:Nat} {v:Value} {xs:List Value} (h:w.ownsRow base e size v n xs) (hb:base'≤base):w.ownsRow base' e size v n xs:=by
 refine ⟨h.1,?_⟩;rcases h.2 with h | ⟨g,cap,cur,e1,h2,r⟩
 · exact .inl h
 · exact .inr ⟨g,cap,cur,e1,by omega,r⟩
variable {P:Program} {n:NN} {Q:Exit→Fr→World→Prop} {f:Fr} {w:World} {ops:Array Oper} {rest:List Oper}
theorem q1k (w:World) (o:Obj):Ext w (w.alloc o):=World.grownBy_alloc w o none
theorem Blk.new (w:World) (t:TypeId) (cs:List Value):Blk (w.alloc (.cells cs.toArray t)) w.heap.size t cs:=heap_alloc_new w _
section X
variable {d:Option Tmp} {t ty ty' e:TypeId} {pos:String} {af:Array Edge} {g:Option (Nat × Bool)} {x y:Operand} {k:IntKind} {a b:Int}
theorem X_box {l:List Value} (hx:ev n f x=.agg l.toArray):X P n ⟨d,.box ty x,t,pos,af,g⟩ f w=.ok (.value (.pointer (some ⟨w.heap.size,0,none⟩))) (w.alloc (.cells l.toArray ty)):=by
 simp [X,execOp,hx,Instr.box,newVar,newRow,newObj,Value.cells,Sem.run]
theorem X_box1 {v:Value} (hx:ev n f x=v) (h1:v.cells=#[v]):X P n ⟨d,.box ty x,t,pos,af,g⟩ f w=.ok (.value (.pointer (some ⟨w.heap.size,0,none⟩))) (w.alloc (.cells [v].toArray ty)):=by
 subst hx;simp [X,execOp,Instr.box,newVar,newRow,newObj,h1,Sem.run]
theorem X_alloc {size bytes:Nat} {z:Value} [hz:TInfo P ty size bytes z]:X P n ⟨d,.alloc ty,t,pos,af,g⟩ f w=.ok (.value (.pointer (some ⟨w.heap.size,0,none⟩))) (w.alloc (.cells z.cells ty)):=by
 obtain ⟨i,hi,h0,h1,h2⟩:=info_parts hz.h;simp [X,execOp,Instr.alloc,zeroValue,typeInfo,hi,h0,newVar,newRow,newObj,Sem.run]
theorem X_store1 [hs:TOne P ty] {g' o:Nat} {tt:TypeId} {cs:List Value} {v:Value} (hx:ev n f x=.pointer (some ⟨g',o,none⟩)) (hy:ev n f y=v) (h1:v.oneCell'=true)
   (hb:Blk w g' tt cs) (ho:o < cs.length):X P n ⟨d,.store ty x y,t,pos,af,g⟩ f w=.ok .skip (w.setRow g' (cs.set o v).toArray):=by
 subst hy;have hc:(ev n f y).cells=#[ev n f y]:=by cases hv:ev n f y <;> first | rfl | (rw [hv] at h1;cases h1)
 have:=run_storeCells_at P g' o tt [ev n f y] 0 cs.toArray w hb (by simp;omega) (fun x hx=>by simp at hx;subst hx;exact h1);have hs':=hs.s;cases hq:P.info? ty with
 | none=>simp [hq] at hs'
 | some i =>
   have hsz:i.size=1:=(by simpa [hq] using hs');simp only [Nat.add_zero,List.length_singleton] at this;have hset:(cs.set o (ev n f y)).toArray=(cs.toArray.toList.take o++[ev n f y]++cs.toArray.toList.drop (o+1)).toArray:=by
     simp [List.set_eq_take_append_cons_drop,ho]
   simp [X,execOp,hx,Instr.storeAt,Instr.sureAddr,storeVar,sizeOf,typeInfo,hq,hsz,hc,hset];simpa using congrArg (fun r=>r.andThen fun _ w=>Result.ok Next.skip w) this
theorem q9w {size:Nat} [hs:TAgg P ty size] {g' o:Nat} {tt:TypeId} {cs l:List Value} (hx:ev n f x=.pointer (some ⟨g',o,none⟩)) (hy:ev n f y=.agg l.toArray) (hl:l.length=size)
   (h1:∀ v∈l,v.oneCell'=true) (hb:Blk w g' tt cs) (ho:o+size≤cs.length):X P n ⟨d,.store ty x y,t,pos,af,g⟩ f w=.ok .skip (w.setRow g' (cs.take o++l++cs.drop (o+size)).toArray):=by
 have hst:=run_storeCells_at P g' o tt l 0 cs.toArray w hb (by simp;omega) h1;have hs':=hs.s;cases hq:P.info? ty with
 | none=>simp [hq] at hs'
 | some i =>
   have hsz:i.size=size:=(by simpa [hq] using hs');simp only [Nat.add_zero,hl] at hst;simp [X,execOp,hx,hy,Instr.storeAt,Instr.sureAddr,storeVar,sizeOf,typeInfo,hq,hsz,Value.cells,hl];simpa using congrArg (fun r=>r.andThen fun _ w=>Result.ok Next.skip w) hst
end X
theorem Blk.setRow {w:World} {g:Nat} {t:TypeId} {cs:List Value} (h:Blk w g t cs) (l:List Value):Blk (w.setRow g l.toArray) g t l:=setRow_heap w g _ _ _ _ h
theorem q3v (w:World) (g:Nat) (cs:Array Value):w.grownBy (w.setRow g cs) (some g) :=
 ⟨rfl,rfl,rfl,by simp [World.setRow],fun k _ hk=>setRow_other w g k _ (fun e=>hk (by simp [e]))⟩
end Go.Proofs.K
namespace Go.Proofs.K
open Go.RowKit
variable {P:Program} {n:NN} {Q:Exit→Fr→World→Prop} {f:Fr} {w:World} {ops:Array Oper} {rest:List Oper}
class TSz (P:Program) (t:TypeId) (size:outParam Nat):Prop where h:(P.info? t).map (·.size)=some size
theorem TSz.run {P:Program} {t size:Nat} [h:TSz P t size] (w:World):(sizeOf t).run P w=.ok size w:=by
 have:=h.h;cases hq:P.info? t with
 | none=>simp [hq] at this
 | some i=>simp [hq] at this;simp [sizeOf,typeInfo,hq,this]
section X
variable {d:Option Tmp} {t ty ty' e:TypeId} {pos:String} {af:Array Edge} {g:Option (Nat × Bool)} {x y:Operand} {k:IntKind} {a b:Int}
theorem q8t {size:Nat} [hs:TSlice P ty e] [hz:TSz P e size] {b o m c:Nat} {i:Int} (hx:ev n f x=.slice (some ⟨b,o,none⟩) m c) (hy:ev n f y=.int k i) (h:0≤i∧i < m) :
   X P n ⟨d,.indexAddr ty x y,t,pos,af,g⟩ f w=.ok (.value (.pointer (some ⟨b,o+i.toNat * size,none⟩))) w:=by
 simp [X,execOp,hx,hy,Instr.indexAt,asIntOf,run_underlying hs.h,h,TSz.run,Addr.add_mid]
theorem q0q {size:Nat} [hs:TSlice P ty e] [hz:TSz P e size] {b o m c:Nat} {i:Nat} (hx:ev n f x=.slice (some ⟨b,o,none⟩) m c) (hy:ev n f y=.int k (i:Int)) (h:i < m) :
   X P n ⟨d,.indexAddr ty x y,t,pos,af,g⟩ f w=.ok (.value (.pointer (some ⟨b,o+i * size,none⟩))) w:=by
 rw [q8t hx hy (by omega)];simp
theorem q3c {len size:Nat} [hs:TArr P ty len e] [hz:TSz P e size] {b o:Nat} {i:Int} (hx:ev n f x=.pointer (some ⟨b,o,none⟩)) (hy:ev n f y=.int k i) (h:0≤i∧i < len) :
   X P n ⟨d,.indexAddr ty x y,t,pos,af,g⟩ f w=.ok (.value (.pointer (some ⟨b,o+i.toNat * size,none⟩))) w:=by
 simp [X,execOp,hx,hy,Instr.indexAt,asIntOf,run_underlying hs.h,h,TSz.run,Addr.add_mid,Instr.sureAddr]
theorem q4l {len size:Nat} [hs:TArr P ty len e] [hz:TSz P e size] {b o:Nat} {i:Nat} (hx:ev n f x=.pointer (some ⟨b,o,none⟩)) (hy:ev n f y=.int k (i:Int)) (h:i < len) :
   X P n ⟨d,.indexAddr ty x y,t,pos,af,g⟩ f w=.ok (.value (.pointer (some ⟨b,o+i * size,none⟩))) w:=by
 rw [q3c hx hy (by omega)];simp
theorem X_indexStr [hs:TStr P ty] {s:ByteArray} {i:Nat} (hx:ev n f x=.string s) (hy:ev n f y=.int k (i:Int)) (h:i < s.size) :
   X P n ⟨d,.index ty x y,t,pos,af,g⟩ f w=.ok (.value (.int .u8 (s[i].toNat:Int))) w:=by
 simp [X,execOp,hx,hy,Instr.index,asIntOf,run_underlying hs.h,h]
theorem X_indexV {len:Nat} [hs:TArr P ty len e] [h1:TOne P e] {l:List Value} {v:Value} {i:Nat} (hx:ev n f x=.agg l.toArray) (hy:ev n f y=.int k (i:Int)) (h:i < len) (hv:l[i]?=some v) :
   X P n ⟨d,.index ty x y,t,pos,af,g⟩ f w=.ok (.value v) w:=by
 obtain ⟨D,hD,hd⟩:=h1.h;haveI:TSz P e 1:=⟨h1.s⟩;simp [X,execOp,hx,hy,Instr.index,asIntOf,run_underlying hs.h,h,TSz.run,part,isAgg,run_underlying hD];cases D <;> simp_all
theorem X_field1 {kk off ft:Nat} [hf:TFld P ty kk off ft] [h1:TOne P ft] {l:List Value} {v:Value} (hx:ev n f x=.agg l.toArray) (hv:l[off]?=some v) :
   X P n ⟨d,.field ty x kk,t,pos,af,g⟩ f w=.ok (.value v) w:=by
 obtain ⟨fs,fld,hu,hf',ho,ht⟩:=hf.h;subst ho;subst ht;obtain ⟨D,hD,hd⟩:=h1.h;simp [X,execOp,hx,Instr.field,run_underlying hu,hf',asAgg,part,isAgg,run_underlying hD];cases D <;> simp_all
inductive Parts (n:NN) (f:Fr):List (List Value)→List (Nat × Operand)→List (List Value)→Prop
 | nil (zs:List (List Value)):Parts n f zs [] zs
 | cons {zs zs':List (List Value)} {i:Nat} {x:Operand} {v:Value} {c z:List Value} {r:List (Nat × Operand)} (hx:ev n f x=v) (hc:v.cells=c.toArray) (hz:zs[i]?=some z) (hl:c.length=z.length) (h:Parts n f (zs.set i c) r zs'):Parts n f zs ((i,x) :: r) zs'
def offs (zs:List (List Value)) (i:Nat):Nat:=(zs.take i).flatten.length
theorem foldl_set (c:List Value):∀ (i off:Nat) (l:List Value),off+i+c.length≤l.length→(c.zipIdx i).foldl (fun (cs:Array Value) (p:Value × Nat)=>cs.setIfInBounds (off+p.2) p.1) l.toArray=(l.take (off+i)++c++l.drop (off+i+c.length)).toArray:=by
 induction c with
 | nil=>intro i off l h;simp
 | cons u c ih =>
   intro i off l h;simp only [List.length_cons] at h;simp only [List.zipIdx_cons,List.foldl_cons,List.setIfInBounds_toArray];rw [ih (i+1) off _ (by simp;omega)];congr 1;have h1:off+i < l.length:=(by omega);rw [List.set_eq_take_append_cons_drop,if_pos h1];have hlen:(l.take (off+i)).length=off+i:=(by simp;omega);have e1:List.take (off+(i+1)) (List.take (off+i) l++u :: List.drop (off+i+1) l)=List.take (off+i) l++[u]:=by
     rw [List.take_append,hlen];have:off+(i+1) - (off+i)=1:=(by omega);rw [this,List.take_of_length_le (by omega)];rfl
   have e2:List.drop (off+(i+1)+c.length) (List.take (off+i) l++u :: List.drop (off+i+1) l)=List.drop (off+i+(c.length+1)) l:=by
     rw [List.drop_append,hlen,List.drop_eq_nil_of_le (by omega)];have:off+(i+1)+c.length - (off+i)=c.length+1:=(by omega);rw [this,List.nil_append,List.drop_succ_cons,List.drop_drop];congr 1;omega
   rw [e1,e2];simp
theorem flat_set (zs:List (List Value)) (i:Nat) (c z:List Value) (hz:zs[i]?=some z) (hl:c.length=z.length) :
   zs.flatten.take (offs zs i)++c++zs.flatten.drop (offs zs i+c.length)=(zs.set i c).flatten∧offs zs i+c.length≤zs.flatten.length∧∀ j,offs (zs.set i c) j=offs zs j:=by
 induction zs generalizing i with
 | nil=>simp at hz
 | cons y zs ih =>
   cases i with
   | zero =>
     simp at hz;subst hz;refine ⟨by simp [offs,hl],by simp [offs,hl],fun j=>?_⟩;cases j <;> simp [offs,hl]
   | succ i =>
     simp at hz;obtain ⟨h1,h2,h3⟩:=ih i hz;have ho:offs (y :: zs) (i+1)=y.length+offs zs i:=(by simp [offs]);refine ⟨?_,?_,fun j=>?_⟩
     · rw [ho];simp only [List.flatten_cons,List.set_cons_succ];rw [← h1,List.take_append,List.take_of_length_le (by omega),List.drop_append,List.drop_eq_nil_of_le (by omega)];have e1:y.length+offs zs i - y.length=offs zs i:=(by omega);have e2:y.length+offs zs i+c.length - y.length=offs zs i+c.length:=(by omega);rw [e1,e2];simp
     · rw [ho];simp only [List.flatten_cons,List.length_append];omega
     · cases j with
       | zero=>simp [offs]
       | succ j=>have:=h3 j;simp [offs] at this ⊢;omega
theorem z0o {zs zs':List (List Value)} {r:List (Nat × Operand)} (h:Parts n f zs r zs') (place:Nat→Option (Nat × Nat)) (hp:∀ i z,zs[i]?=some z→place i=some (offs zs i,z.length)) :
   Instr.fill place zs.flatten.toArray (r.map fun p=>(p.1,ev n f p.2))=some zs'.flatten.toArray:=by
 induction h with
 | nil zs=>rfl
 | @cons zs zs' i x v c z r hx hc hz hl h ih =>
   obtain ⟨h1,h2,h3⟩:=flat_set zs i c z hz hl;have hs:v.cells.size=z.length:=(by rw [hc];simp [hl]);simp only [List.map_cons,Instr.fill,hp i z hz,hx];have hfit:¬ ((decide (v.cells.size ≠ z.length) || decide (offs zs i+v.cells.size > zs.flatten.toArray.size))=true):=by
     have:zs.flatten.toArray.size=zs.flatten.length:=rfl;rw [this];simp only [Bool.or_eq_true,decide_eq_true_eq,not_or];omega
   rw [if_neg hfit];have hz':v.cells.zipIdx.foldl (fun cs (p:Value × Nat)=>cs.setIfInBounds (offs zs i+p.2) p.1) zs.flatten.toArray=(zs.set i c).flatten.toArray:=by
     rw [hc,← Array.foldl_toList,Array.toList_zipIdx];have:=foldl_set c 0 (offs zs i) zs.flatten (by simpa using h2);simp only [Nat.add_zero] at this;rw [← h1];exact this
   rw [show (v.cells.zipIdx.foldl (fun cs x=>match x with | (c,j)=>cs.setIfInBounds (offs zs i+j) c) zs.flatten.toArray)=(zs.set i c).flatten.toArray from hz'];refine ih fun j u hu=>?_;rw [h3 j];by_cases hij:i=j
   · subst hij;rw [List.getElem?_set_self (List.getElem?_eq_some_iff.1 hz).1] at hu;injection hu with hu;subst hu;rw [hp i z hz,hl]
   · rw [List.getElem?_set_ne hij] at hu;exact hp j u hu
class TSegs (P:Program) (t:TypeId) (zs:outParam (List (List Value))):Prop where
 h:∃ fs,P.underlying t=some (.struct fs)∧fs.size=zs.length∧(∀ (i:Nat) (fld:Field),fs[i]?=some fld→∃ z,zs[i]?=some z∧fld.offset=offs zs i∧(P.info? fld.type).map (·.size)=some z.length)
 z:(P.info? t).bind (·.zero)=some (.agg zs.flatten.toArray)
theorem z3i (w:World) (fs:List Field) (h:∀ fld∈fs,∃ i,P.info? fld.type=some i) :
   (fs.mapM (m:=Sem) fun fl=>do pure (fl.offset,← sizeOf fl.type)).run P w=.ok (fs.map fun fl=>(fl.offset,((P.info? fl.type).map (·.size)).getD 0)) w:=by
 induction fs with
 | nil=>simp
 | cons a fs ih =>
   obtain ⟨i,hi⟩:=h a (by simp);have:=ih (fun fl hf=>h fl (by simp [hf]));simp [List.mapM_cons,sizeOf,typeInfo,hi] at this ⊢;simp [this]
theorem map_run {α β:Type} (fs:Array α) (F:α→Sem β):(fs.mapM F:Sem (Array β))=(do let l ← fs.toList.mapM F;pure l.toArray):=by
 rw [Array.mapM_eq_mapM_toList];rfl
theorem q1t {zs zs':List (List Value)} [hs:TSegs P ty zs] {r:List (Nat × Operand)} (hp:Parts n f zs r zs') :
   X P n ⟨d,.build ty r.toArray,t,pos,af,g⟩ f w=.ok (.value (.agg zs'.flatten.toArray)) w:=by
 obtain ⟨fs,hu,hlen,hf⟩:=hs.h;have hz:=hs.z;cases hq:P.info? ty with
 | none=>simp [hq] at hz
 | some i =>
   have hzero:i.zero=some (.agg zs.flatten.toArray):=(by simpa [hq] using hz)
   have hm:=z3i (P:=P) w fs.toList (fun fld hfld=>by
     obtain ⟨j,hj⟩:=List.getElem?_of_mem hfld
     obtain ⟨z,_,_,h3⟩:=hf j fld (by simpa using hj)
     cases hq:P.info? fld.type with
     | none=>simp [hq] at h3
     | some i=>exact ⟨i,rfl⟩)
   have hfill:=z0o hp (fun j=>(fs.toList.map fun fl=>(fl.offset,((P.info? fl.type).map (·.size)).getD 0)).toArray[j]?) (fun j z hz=>by
     have hj:j < fs.size:=by rw [hlen];exact (List.getElem?_eq_some_iff.1 hz).1
     obtain ⟨z',h1,h2,h3⟩:=hf j fs[j] (Array.getElem?_eq_getElem hj)
     rw [hz] at h1;injection h1 with h1;subst h1
     simp [hj,h2,h3])
   have hr:(r.toArray.map fun (p:Nat × Operand)=>(p.1,ev n f p.2)).toList=r.map fun p=>(p.1,ev n f p.2):=(by simp);have hm2:(fs.mapM fun fl=>do pure (fl.offset,← sizeOf fl.type):Sem _).run P w=.ok (fs.toList.map fun fl=>(fl.offset,((P.info? fl.type).map (·.size)).getD 0)).toArray w:=by
     rw [map_run];simp only [Sem.run_bind,hm,Result.andThen_ok,Sem.run_pure]
   have hbuild:(Instr.build ty (r.toArray.map fun (p:Nat × Operand)=>(p.1,ev n f p.2))).run P w=.ok (.agg zs'.flatten.toArray) w:=by
     unfold Instr.build;have hzv:(zeroValue ty).run P w=.ok (.agg zs.flatten.toArray) w:=(by simp [zeroValue,typeInfo,hq,hzero]);rw [Sem.run_bind,hzv,Result.andThen_ok];simp only [Value.cells];rw [Sem.run_bind,run_underlying hu,Result.andThen_ok];simp only [];rw [Sem.run_bind,hm2,Result.andThen_ok];rw [hr,hfill];rfl
   simp only [X,execOp,Sem.run_bind,hbuild,Result.andThen_ok,Sem.run_pure]
end X
end Go.Proofs.K
namespace Go.Proofs.K
open Go.RowKit
variable {P:Program} {n:NN} {Q:Exit→Fr→World→Prop} {f:Fr} {w:World} {ops:Array Oper} {rest:List Oper}
theorem offs_rep (m:Nat) (z:List Value) (i:Nat) (h:i≤m):offs (List.replicate m z) i=i * z.length:=by
 unfold offs;rw [List.take_replicate,Nat.min_eq_left h,List.length_flatten,List.map_replicate,List.sum_replicate_nat]
theorem rep_flat_get (z:List Value) (m j:Nat) (hj:j < m * z.length):(List.replicate m z).flatten[j]?=z[j % z.length]?:=by
 induction m generalizing j with
 | zero=>simp at hj
 | succ m ih =>
   simp only [List.replicate_succ,List.flatten_cons];rw [List.getElem?_append];by_cases h:j < z.length
   · rw [if_pos h,Nat.mod_eq_of_lt h]
   · rw [Nat.succ_mul] at hj;rw [if_neg h,ih (j - z.length) (by omega),Nat.mod_eq_sub_mod (a:=j) (by omega)]
theorem z0f (z:List Value) (m:Nat):(Array.range (m * z.length)).map (fun i=>z.toArray[i % z.toArray.size]!)=(List.replicate m z).flatten.toArray:=by
 apply Array.ext_getElem?;intro j;by_cases hj:j < m * z.length
 · have hz:0 < z.length:=by
     rcases Nat.eq_zero_or_pos z.length with h | h
     · rw [h] at hj;omega
     · exact h
   have hm:j % z.length < z.length:=Nat.mod_lt _ hz;rw [show (List.replicate m z).flatten.toArray[j]?=(List.replicate m z).flatten[j]? from by simp,rep_flat_get z m j hj,List.getElem?_eq_getElem hm];simp [hj,hm]
 · rw [Array.getElem?_eq_none (by simp;omega),Array.getElem?_eq_none (by simp [List.length_flatten];omega)]
section X
variable {d:Option Tmp} {t ty ty' e:TypeId} {pos:String} {af:Array Edge} {g:Option (Nat × Bool)} {x y:Operand} {k:IntKind} {a b:Int}
class TZero (P:Program) (t:TypeId) (z:outParam (List Value)):Prop where
 h:∃ v,(P.info? t).bind (·.zero)=some v∧v.cells=z.toArray
 s:(P.info? t).map (·.size)=some z.length
theorem X_buildSlice {z:List Value} {len:Nat} {zs':List (List Value)} [hs:TSlice P ty e] [hz:TZero P e z] {r:List (Nat × Operand)} (hp:Parts n f (List.replicate len z) r zs') (hlen:len * z.length≤2 ^ 24) :
   X P n ⟨d,.buildSlice ty len r.toArray,t,pos,af,g⟩ f w=.ok (.value (.slice (some ⟨w.heap.size,0,none⟩) len len)) (w.alloc (.cells zs'.flatten.toArray e)):=by
 obtain ⟨v,hv,hc⟩:=hz.h;have hsz:=hz.s;cases hq:P.info? e with
 | none=>simp [hq] at hsz
 | some i =>
   have hzero:i.zero=some v:=(by simpa [hq] using hv);have hsize:i.size=z.length:=(by simpa [hq] using hsz)
   have hfill:=z0o hp (fun i=>some (i * z.length,z.length)) (fun j u hu=>by
     have hj:=(List.getElem?_eq_some_iff.1 hu).1
     have:u=z:=by
       rw [List.getElem?_replicate] at hu
       split at hu
       · injection hu with hu;exact hu.symm
       · cases hu
     subst this
     simp at hj
     rw [offs_rep _ _ _ (by omega)])
   have hr:(r.toArray.map fun (p:Nat × Operand)=>(p.1,ev n f p.2)).toList=r.map fun p=>(p.1,ev n f p.2):=(by simp);have hb:(Instr.buildSlice ty len (r.toArray.map fun (p:Nat × Operand)=>(p.1,ev n f p.2))).run P w=.ok (.slice (some ⟨w.heap.size,0,none⟩) len len) (w.alloc (.cells zs'.flatten.toArray e)):=by
     unfold Instr.buildSlice;rw [Sem.run_bind,run_underlying hs.h,Result.andThen_ok];simp only [];have hso:(sizeOf e).run P w=.ok z.length w:=(by simp [sizeOf,typeInfo,hq,hsize]);rw [Sem.run_bind,hso,Result.andThen_ok];rw [if_neg (by omega)];by_cases h0:len * z.length=0
     · rw [if_pos h0];rw [Sem.run_bind];simp only [Sem.run_pure,Result.andThen_ok];have e1:(Array.range (len * z.length)).map (fun i=>(#[]:Array Value)[i % (#[]:Array Value).size]!)=(List.replicate len z).flatten.toArray:=by
         rw [← z0f,h0];simp
       rw [e1,hr,hfill];simp [newRow,newObj,Sem.run]
     · rw [if_neg h0];rw [Sem.run_bind];have hzv:(zeroValue e).run P w=.ok v w:=(by simp [zeroValue,typeInfo,hq,hzero]);rw [hzv];simp only [Sem.run_bind,Sem.run_pure,Result.andThen_ok];rw [hc,z0f,hr,hfill];simp [newRow,newObj,Sem.run]
   simp only [X,execOp,Sem.run_bind,hb,Result.andThen_ok,Sem.run_pure]
theorem z4e {z:List Value} {len:Nat} {zs':List (List Value)} [hs:TArr P ty len e] [hz:TZero P e z] [ha:TZero P ty (List.replicate len z).flatten] {r:List (Nat × Operand)} (hp:Parts n f (List.replicate len z) r zs') :
   X P n ⟨d,.build ty r.toArray,t,pos,af,g⟩ f w=.ok (.value (.agg zs'.flatten.toArray)) w:=by
 obtain ⟨v,hv,hc⟩:=ha.h;have hsz:=hz.s;cases hqa:P.info? ty with
 | none=>simp [hqa] at hv
 | some ia =>
 cases hq:P.info? e with
 | none=>simp [hq] at hsz
 | some i =>
   have hzero:ia.zero=some v:=(by simpa [hqa] using hv);have hsize:i.size=z.length:=(by simpa [hq] using hsz)
   have hfill:=z0o hp (fun i=>some (i * z.length,z.length)) (fun j u hu=>by
     have hj:=(List.getElem?_eq_some_iff.1 hu).1
     have:u=z:=by
       rw [List.getElem?_replicate] at hu
       split at hu
       · injection hu with hu;exact hu.symm
       · cases hu
     subst this
     simp at hj
     rw [offs_rep _ _ _ (by omega)])
   have hr:(r.toArray.map fun (p:Nat × Operand)=>(p.1,ev n f p.2)).toList=r.map fun p=>(p.1,ev n f p.2):=(by simp);have hb:(Instr.build ty (r.toArray.map fun (p:Nat × Operand)=>(p.1,ev n f p.2))).run P w=.ok (.agg zs'.flatten.toArray) w:=by
     unfold Instr.build;have hzv:(zeroValue ty).run P w=.ok v w:=(by simp [zeroValue,typeInfo,hqa,hzero]);rw [Sem.run_bind,hzv,Result.andThen_ok];simp only [hc];rw [Sem.run_bind,run_underlying hs.h,Result.andThen_ok];simp only [];have hso:(sizeOf e).run P w=.ok z.length w:=(by simp [sizeOf,typeInfo,hq,hsize]);rw [Sem.run_bind,hso,Result.andThen_ok,hr,hfill];rfl
   simp only [X,execOp,Sem.run_bind,hb,Result.andThen_ok,Sem.run_pure]
theorem q3h (v:Value) (k:IntKind) (i:Int) (yy:Nat) (c:BoundsCode) (hv:v=.int k i) (h:0≤i∧i≤yy):(Instr.sliceBound v yy c).run P w=.ok i.toNat w:=by
 subst hv;simp [Instr.sliceBound,asIntOf,h]
theorem Row.slice {lo hi size m:Nat} {v:Value} {xs:List Value} {i j:Nat} {A:Option Addr} {c:Nat} (h:Row w lo hi size v m xs) (hv:v=.slice A m c) (hij:i≤j) (hj:j≤m) :
   Row w lo hi size (.slice (if c=i then A else A.map (·.add (i * size))) (j - i) (c - i)) (j - i) ((xs.drop (i * size)).take ((j - i) * size)):=by
 obtain ⟨hl,A',c',e,hc,hm,hn⟩:=h;rw [hv] at e;injection e with e1 e2 e3;subst e1;subst e3;refine ⟨?_,_,_,rfl,by omega,by omega,fun h0=>?_⟩
 · rw [List.length_take,List.length_drop,hl,Nat.min_eq_left];rw [← Nat.sub_mul];exact Nat.mul_le_mul_right _ (by omega)
 · obtain ⟨b,o,rfl,h1,h2,h3⟩:=hn (by omega);refine ⟨b,o+i * size,?_,h1,h2,fun q u hu=>?_⟩
   · rw [if_neg (by omega)];simp [Addr.add_mid]
   · rw [List.getElem?_take] at hu;split at hu
     · rw [List.getElem?_drop] at hu;have:=h3 _ u hu;rwa [← Nat.add_assoc] at this
     · cases hu
theorem z2y {size m c:Nat} [hs:TSlice P ty e] [hz:TSz P e size] {A:Option Addr} {lo hi:Option Operand} {i j:Nat}
   (hx:ev n f x=.slice A m c) (hlo:match lo with | none=>i=0 | some o=>∃ k,ev n f o=.int k (i:Int)) (hhi:match hi with | none=>j=m | some o=>∃ k,ev n f o=.int k (j:Int)) (hij:i≤j) (hj:j≤c) :
   X P n ⟨d,.slice ty x lo hi none,t,pos,af,g⟩ f w=.ok (.value (.slice (if c=i then A else A.map (·.add (i * size))) (j - i) (c - i))) w:=by
 have hb:(Instr.sliceBounds true m c (lo.map (ev n f)) (hi.map (ev n f)) none).run P w=.ok (i,j,c) w:=by
   unfold Instr.sliceBounds;cases hi with
   | none =>
     simp only at hhi;subst hhi;cases lo with
     | none=>simp only at hlo;subst hlo;simp
     | some o =>
       obtain ⟨k,hk⟩:=hlo;simp [hk,q3h (P:=P) (w:=w) _ k (i:Int) _ _ Y (show (0:Int)≤i∧(i:Int)≤((j:Nat):Int) by omega)]
   | some oh =>
     obtain ⟨k',hk'⟩:=hhi;cases lo with
     | none=>simp only at hlo;subst hlo;simp [hk',q3h (P:=P) (w:=w) _ k' (j:Int) _ _ Y (show (0:Int)≤j∧(j:Int)≤((c:Nat):Int) by omega)]
     | some o =>
       obtain ⟨k,hk⟩:=hlo;simp [hk,hk',q3h (P:=P) (w:=w) _ k' (j:Int) _ _ Y (show (0:Int)≤j∧(j:Int)≤((c:Nat):Int) by omega),q3h (P:=P) (w:=w) _ k (i:Int) _ _ Y (show (0:Int)≤i∧(i:Int)≤((j:Nat):Int) by omega)]
 have:(Instr.sliceAt ty (.slice A m c) (lo.map (ev n f)) (hi.map (ev n f)) none).run P w=.ok (.slice (if c=i then A else A.map (·.add (i * size))) (j - i) (c - i)) w:=by
   unfold Instr.sliceAt;rw [Sem.run_bind,run_underlying hs.h,Result.andThen_ok];simp only [Instr.slice];rw [Sem.run_bind,run_underlying hs.h,Result.andThen_ok];simp only [];rw [Sem.run_bind,hb,Result.andThen_ok];simp only [];rw [Sem.run_bind,TSz.run,Result.andThen_ok];rfl
 simp only [X,execOp,hx,Sem.run_bind,Option.map_none,this,Result.andThen_ok,Sem.run_pure]
theorem q8r {size m:Nat} [hs:TArr P ty m e] [hz:TSz P e size] {b o:Nat} {lo hi:Option Operand} {i j:Nat}
   (hx:ev n f x=.pointer (some ⟨b,o,none⟩)) (hlo:match lo with | none=>i=0 | some o=>∃ k,ev n f o=.int k (i:Int)) (hhi:match hi with | none=>j=m | some o=>∃ k,ev n f o=.int k (j:Int)) (hij:i≤j) (hj:j≤m) :
   X P n ⟨d,.slice ty x lo hi none,t,pos,af,g⟩ f w=.ok (.value (.slice (some (if m=i then ⟨b,o,none⟩ else ⟨b,o+i * size,none⟩)) (j - i) (m - i))) w:=by
 have hb:(Instr.sliceBounds false m m (lo.map (ev n f)) (hi.map (ev n f)) none).run P w=.ok (i,j,m) w:=by
   unfold Instr.sliceBounds;cases hi with
   | none =>
     simp only at hhi;subst hhi;cases lo with
     | none=>simp only at hlo;subst hlo;simp
     | some o =>
       obtain ⟨k,hk⟩:=hlo;simp [hk,q3h (P:=P) (w:=w) _ k (i:Int) _ _ Y (show (0:Int)≤i∧(i:Int)≤((j:Nat):Int) by omega)]
   | some oh =>
     obtain ⟨k',hk'⟩:=hhi;cases lo with
     | none=>simp only at hlo;subst hlo;simp [hk',q3h (P:=P) (w:=w) _ k' (j:Int) _ _ Y (show (0:Int)≤j∧(j:Int)≤((m:Nat):Int) by omega)]
     | some o =>
       obtain ⟨k,hk⟩:=hlo;simp [hk,hk',q3h (P:=P) (w:=w) _ k' (j:Int) _ _ Y (show (0:Int)≤j∧(j:Int)≤((m:Nat):Int) by omega),q3h (P:=P) (w:=w) _ k (i:Int) _ _ Y (show (0:Int)≤i∧(i:Int)≤((j:Nat):Int) by omega)]
 have:(Instr.sliceAt ty (.pointer (some ⟨b,o,none⟩)) (lo.map (ev n f)) (hi.map (ev n f)) none).run P w=.ok (.slice (some (if m=i then ⟨b,o,none⟩ else ⟨b,o+i * size,none⟩)) (j - i) (m - i)) w:=by
   unfold Instr.sliceAt;rw [Sem.run_bind,run_underlying hs.h,Result.andThen_ok];simp only [Instr.sureAddr];rw [Sem.run_bind,Sem.run_pure,Result.andThen_ok,Sem.run_bind,hb,Result.andThen_ok];simp only [];rw [Sem.run_bind,TSz.run,Result.andThen_ok];simp only [Addr.add_mid];rfl
 simp only [X,execOp,hx,Sem.run_bind,Option.map_none,this,Result.andThen_ok,Sem.run_pure]
theorem X_sliceStr [hs:TStr P ty] {s:ByteArray} {lo hi:Option Operand} {i j:Nat}
   (hx:ev n f x=.string s) (hlo:match lo with | none=>i=0 | some o=>∃ k,ev n f o=.int k (i:Int)) (hhi:match hi with | none=>j=s.size | some o=>∃ k,ev n f o=.int k (j:Int)) (hij:i≤j) (hj:j≤s.size) :
   X P n ⟨d,.slice ty x lo hi none,t,pos,af,g⟩ f w=.ok (.value (.string (s.extract i j))) w:=by
 have hb:(Instr.sliceBounds false s.size s.size (lo.map (ev n f)) (hi.map (ev n f)) none).run P w=.ok (i,j,s.size) w:=by
   unfold Instr.sliceBounds;cases hi with
   | none =>
     simp only at hhi;subst hhi;cases lo with
     | none=>simp only at hlo;subst hlo;simp
     | some o =>
       obtain ⟨k,hk⟩:=hlo;simp [hk,q3h (P:=P) (w:=w) _ k (i:Int) _ _ Y (show (0:Int)≤i∧(i:Int)≤((s.size:Nat):Int) by omega)]
   | some oh =>
     obtain ⟨k',hk'⟩:=hhi;cases lo with
     | none=>simp only at hlo;subst hlo;simp [hk',q3h (P:=P) (w:=w) _ k' (j:Int) _ _ Y (show (0:Int)≤j∧(j:Int)≤((s.size:Nat):Int) by omega)]
     | some o =>
       obtain ⟨k,hk⟩:=hlo;simp [hk,hk',q3h (P:=P) (w:=w) _ k' (j:Int) _ _ Y (show (0:Int)≤j∧(j:Int)≤((s.size:Nat):Int) by omega),q3h (P:=P) (w:=w) _ k (i:Int) _ _ Y (show (0:Int)≤i∧(i:Int)≤((j:Nat):Int) by omega)]
 have:(Instr.sliceAt ty (.string s) (lo.map (ev n f)) (hi.map (ev n f)) none).run P w=.ok (.string (s.extract i j)) w:=by
   unfold Instr.sliceAt;rw [Sem.run_bind,run_underlying hs.h,Result.andThen_ok];simp only [Instr.slice];rw [Sem.run_bind,run_underlying hs.h,Result.andThen_ok];simp only [Option.isSome_none];simp [hb]
 simp only [X,execOp,hx,Sem.run_bind,Option.map_none,this,Result.andThen_ok,Sem.run_pure]
end X
class TFun (P:Program) (id:FuncId):Prop where
 h:∃ fn,P.funcs[id]?=some fn∧(fn.name == "runtime.NumGoroutine")=false∧fn.body.isNone=false
theorem TFun.run {P:Program} {id:FuncId} [h:TFun P id] (args:Array Value) (w:World):(callFunc id args).run P w=.ok (.enter id args) w:=by
 obtain ⟨fn,h1,h2,h3⟩:=h.h;unfold callFunc;rw [Sem.run_bind];simp only [program,Sem.run,Result.andThen_ok,h1,h2,h3,Bool.false_eq_true,if_false];rfl
variable {d:Tmp} {t ty ty' e:TypeId} {pos:String} {af:Array Edge} {g:Option (Nat × Bool)} {x y:Operand}
theorem X_fn {dd:Option Tmp} {id:FuncId} [TFun P id] {l:List Operand} {vl:List Value} {tys:Array TypeId} (ha:l.map (ev n f)=vl) :
   X P n ⟨dd,.call ⟨.value (.func id),l.toArray,tys⟩,t,pos,af,g⟩ f w=.ok (.enter id vl.toArray) w:=by
 subst ha;simp [X,execOp,resolve,ev,Deferred.ofValue,invoke,TFun.run]
theorem X_clo {dd:Option Tmp} {id:FuncId} [TFun P id] {l:List Operand} {vl:List Value} {tys:Array TypeId} {first cap:Array Value} (hx:ev n f x=.func (.func id) first cap) (ha:l.map (ev n f)=vl) :
   X P n ⟨dd,.call ⟨.value x,l.toArray,tys⟩,t,pos,af,g⟩ f w=.ok (.enter id (first++vl.toArray++cap)) w:=by
 subst ha;simp [X,execOp,resolve,hx,Deferred.ofValue,invoke,TFun.run]
theorem L_fn {id:FuncId} [TFun P id] {l:List Operand} {vl:List Value} {tys:Array TypeId} {R:Ending→World→Prop} (c:Calls P id vl.toArray w R) (ha:l.map (ev n f)=vl)
   (h:∀ e w',R e w'→∃ v,e=.returned v∧L P n ops Q rest (upd f d v) w'):L P n ops Q (⟨some d,.call ⟨.value (.func id),l.toArray,tys⟩,t,pos,af,none⟩ :: rest) f w :=
 L_call Y (X_fn ha) c h
theorem q4q {id:FuncId} [TFun P id] {l:List Operand} {vl:List Value} {tys:Array TypeId} {first cap:Array Value} {R:Ending→World→Prop} (hx:ev n f x=.func (.func id) first cap) (c:Calls P id (first++vl.toArray++cap) w R) (ha:l.map (ev n f)=vl)
   (h:∀ e w',R e w'→∃ v,e=.returned v∧L P n ops Q rest (upd f d v) w'):L P n ops Q (⟨some d,.call ⟨.value x,l.toArray,tys⟩,t,pos,af,none⟩ :: rest) f w :=
 L_call Y (X_clo hx ha) c h
end Go.Proofs.K
namespace Go.Proofs.K
open Go.RowKit
variable {P:Program} {n:NN} {Q:Exit→Fr→World→Prop} {f:Fr} {w:World} {ops:Array Oper} {rest:List Oper}
theorem Row.lit (w:World) (e:TypeId) (size k:Nat) (cs:List Value) (h:cs.length=k * size) (hk:k≤maxLen):Row (w.alloc (.cells cs.toArray e)) w.heap.size (w.heap.size+1) size (.slice (some ⟨w.heap.size,0,none⟩) k k) k cs :=
 ⟨h,_,_,rfl,Nat.le_refl _,hk,fun _=>⟨_,_,rfl,Nat.le_refl _,by omega,fun j u hu=>by
   rw [(Blk.new w e cs).cell];simpa using hu⟩⟩
theorem z4t (w:World) (e:TypeId) (size k base:Nat) (cs:List Value) (h:cs.length=k * size) (hk:k≤maxLen) (hb:base≤w.heap.size):(w.alloc (.cells cs.toArray e)).ownsRow base e size (.slice (some ⟨w.heap.size,0,none⟩) k k) k cs :=
 ⟨h,.inr ⟨w.heap.size,k,cs.toArray,rfl,hb,heap_alloc_new w _,Nat.le_refl _,hk,by simpa using h,by rw [← h];simp⟩⟩
theorem q7z (w:World) (base:Nat) (t ty e:TypeId) (i:TypeInfo) (size:Nat) (ht:P.underlying t=some (.slice e)) (hi:P.info? e=some i)
   (v:Value) (m:Nat) (xs:List Value) (hown:w.ownsRow base e size v m xs) (c:Nat):(Builtin.append_ #[t,t] ty #[v,.slice none 0 c]).run P w=.ok v w:=by
 rcases hown.2 with ⟨rfl,rfl⟩ | ⟨g,cap,cur,rfl,_,_,hnc,_⟩
 · simp [Builtin.append_,run_underlying ht,sizeOf,typeInfo,hi,Builtin.lenOf,Builtin.firstCells]
 · simp [Builtin.append_,run_underlying ht,sizeOf,typeInfo,hi,Builtin.lenOf,Builtin.firstCells,hnc,storeCells]
theorem z3q {lo hi size bytes m k base:Nat} {t ty e:TypeId} {z u v:Value} {xs ys:List Value} [ht:TSlice P t e] [hz:TInfo P e size bytes z]
   (hzs:z.cells.size=size) (hsz:0 < size) (hown:w.ownsRow base e size v m xs) (hr:Row w lo hi size u k ys) (h1:∀ q∈ys,q.oneCell'=true) (hb:(m+k) * bytes≤140737488355328) (hm:m+k≤9223372036854775807) (hbase:base≤w.heap.size) :
   ∃ v' w',(Builtin.append_ #[t,t] ty #[v,u]).run P w=.ok v' w'∧w'.ownsRow base e size v' (m+k) (xs++ys)∧w.grownBy w' v.ownBlock∧(v'.ownBlock=v.ownBlock∨v'.ownBlock=some w.heap.size):=by
 obtain ⟨i,hi',h0,h2,h3⟩:=info_parts hz.h;obtain ⟨hl,A,c,rfl,hc,hcm,hn⟩:=hr;rcases Nat.eq_zero_or_pos k with hk | hk
 · subst hk;have hy:ys=[]:=List.eq_nil_of_length_eq_zero (by simpa using hl);subst hy;rcases A with _ | ad
   · exact ⟨v,w,q7z w base t ty e i size ht.h hi' v m xs hown c,by simpa using hown,⟨rfl,rfl,rfl,Nat.le_refl _,fun _ _ _=>rfl⟩,.inl Y⟩
   · obtain ⟨v',w',hrun,h4,h5,_,h6⟩:=run_append_own_at (P:=P) w base t ty e i z size bytes ht.h hi' h0 h2 h3 hzs hsz v m xs hown ad 0 c [] (by simp) (by simp) (by simp) (by unfold maxLen;omega) hb hbase;exact ⟨v',w',hrun,h4,h5,h6⟩
 · obtain ⟨b,o,rfl,hb1,hb2,hcell⟩:=hn hk;obtain ⟨v',w',hrun,h4,h5,_,h6⟩:=run_append_own_at (P:=P) w base t ty e i z size bytes ht.h hi' h0 h2 h3 hzs hsz v m xs hown ⟨b,o,none⟩ k c ys hl (fun j u hu=>by rw [Addr.add_mid];exact hcell j u hu) h1 (by unfold maxLen;omega) hb hbase;exact ⟨v',w',hrun,h4,h5,h6⟩
variable {d:Option Tmp} {t ty ty' e:TypeId} {pos:String} {af:Array Edge} {g:Option (Nat × Bool)} {x y:Operand}
theorem X_append {lo hi size bytes m k base:Nat} {z u v:Value} {xs ys:List Value} [ht:TSlice P ty e] [hz:TInfo P e size bytes z]
   (hx:ev n f x=v) (hy:ev n f y=u) (hzs:z.cells.size=size) (hsz:0 < size) (hown:w.ownsRow base e size v m xs) (hr:Row w lo hi size u k ys) (h1:∀ q∈ys,q.oneCell'=true) (hb:(m+k) * bytes≤140737488355328) (hm:m+k≤9223372036854775807) (hbase:base≤w.heap.size) :
   ∃ v' w',X P n ⟨d,.call ⟨.builtin .append,#[x,y],#[ty,ty]⟩,t,pos,af,g⟩ f w=.ok (.value v') w'∧w'.ownsRow base e size v' (m+k) (xs++ys)∧w.grownBy w' v.ownBlock∧(v'.ownBlock=v.ownBlock∨v'.ownBlock=some w.heap.size):=by
 subst hx;subst hy;obtain ⟨v',w',hrun,h⟩:=z3q (P:=P) (ty:=t) (t:=ty) hzs hsz hown hr h1 hb hm hbase;refine ⟨v',w',?_,h⟩;simp [X,execOp,resolve,invoke,builtin,hrun]
theorem q4b {base size m:Nat} {v:Value} {xs:List Value} (h:w.ownsRow base e size v m xs):∀ k,v.ownBlock=some k→base≤k:=fun k hk=>(h.lt k hk).1
theorem own_row_lt {base size m:Nat} {v:Value} {xs:List Value} (h:w.ownsRow base e size v m xs):∀ k,v.ownBlock=some k→k < w.heap.size:=fun k hk=>(h.lt k hk).2
theorem q0e {a b c:World} {r1 r2:Option Nat} (h:a.grownBy b r1) (k:b.grownBy c r2) (hr:∀ g,r2=some g→r1=some g∨a.heap.size≤g):a.grownBy c r1 :=
 ⟨k.os.trans h.os,k.tape.trans h.tape,k.output.trans h.output,Nat.le_trans h.size k.size,fun i hi hne =>
   (k.block i (Nat.lt_of_lt_of_le hi h.size) (fun e=>by
     rcases hr i e.symm with h' | h'
     · exact hne h'.symm
     · omega)).trans (h.block i hi hne)⟩
theorem Ext.row {a b:World} (h:Ext a b) (r:Option Nat):a.grownBy b r:=⟨h.os,h.tape,h.output,h.size,fun k hk _=>h.block k hk (by simp)⟩
theorem q1i {fn:Fn} {fi ca:List Operand} {vf vc:List Value} (h1:fi.map (ev n f)=vf) (h2:ca.map (ev n f)=vc):X P n ⟨d,.makeFunc fn fi.toArray ca.toArray,t,pos,af,g⟩ f w=.ok (.value (.func fn vf.toArray vc.toArray)) w:=by
 subst h1;subst h2;simp [X,execOp,Instr.makeFunc]
end Go.Proofs.K
namespace Go.Proofs.K
open Go.RowKit
variable {P:Program} {n:NN} {Q:Exit→Fr→World→Prop} {f:Fr} {w:World} {ops:Array Oper} {rest:List Oper}
class TMixed (P:Program):Prop where h:P.follows .mixedOrders=true
def ready (ops:Array Oper) (listed:Array Bool) (i:Nat):Bool :=
 !listed.getD i true && ((ops[i]?).map (·.after.all fun e=>!Region.binds .any e || listed.getD e.on false)).getD false
theorem go_step {Q':Exit→Act→World→Prop} (J:(Nat→Bool)→Fr→World→Prop)
   (step:∀ i o,ops[i]?=some o→∀ (L:Nat→Bool) f w,L i=false→(∀ e∈o.after,Region.binds .any e=true→L e.on=true)→J L f w →
     (q4a n ops f o=true→RunZ P n o f w (fun c w'=>Q' (.panic c) (act n f) w') fun v w'=>J (fun j=>if j=i then true else L j) (updo f o.dst v) w')∧(q4a n ops f o=false→J (fun j=>if j=i then true else L j) (updo f o.dst undef) w))
   (hback:∀ i o,ops[i]?=some o→∀ e∈o.after,Region.binds .any e=true→e.on < i)
   (hend:∀ L f w,(∀ i,i < ops.size→L i=true)→J L f w→Q' .normal (act n f) w) :
   ∀ (fuel t:Nat) (listed:Array Bool) (acc:List Nat) (f:Fr) (w:World),listed.size=ops.size→(listed.toList.filter (! ·)).length=fuel→J (fun i=>listed.getD i true) f w →
     ∃ l,Region.linearise.go .any ops fuel t listed acc=acc.reverse++l∧wpOpsIn n.fen 9 P ops Q' l (act n f) w:=by
 intro fuel;induction fuel with
 | zero =>
   intro t listed acc f w hs hc hJ;refine ⟨[],by simp [Region.linearise.go],?_⟩;refine hend _ f w (fun i hi=>?_) hJ;have hi':i < listed.size:=(by omega);have hnil:=List.eq_nil_of_length_eq_zero hc;have:(! listed[i])=false:=by
     cases h:(! listed[i])
     · rfl
     · have:listed[i]∈listed.toList.filter (! ·):=List.mem_filter.2 ⟨by simp,h⟩;rw [hnil] at this;cases this
   simp [Array.getD,hi'];simpa using this
 | succ fuel ih =>
   intro t listed acc f w hs hc hJ;have hrs:∃ i0,i0 < ops.size∧ready ops listed i0=true:=by
     have hex:∃ i,i < listed.size∧listed.getD i true=false:=by
       have hpos:0 < (listed.toList.filter (! ·)).length:=(by omega);obtain ⟨b,hb⟩:=List.exists_mem_of_length_pos hpos;obtain ⟨hb1,hb2⟩:=List.mem_filter.1 hb;obtain ⟨i,hi,rfl⟩:=List.getElem_of_mem hb1;exact ⟨i,by simpa using hi,by simp at hi;simp [Array.getD,hi];simpa using hb2⟩
     obtain ⟨i,hi,hl⟩:=hex;induction i using Nat.strongRecOn with
     | _ i ihi =>
       by_cases hr:ready ops listed i=true
       · exact ⟨i,by omega,hr⟩
       · have hio:i < ops.size:=(by omega);have:∃ e∈ops[i].after,Region.binds .any e=true∧listed.getD e.on false=false:=by
           apply Classical.byContradiction;intro hne;apply hr;unfold ready;rw [hl,Array.getElem?_eq_getElem hio];simp only [Bool.not_false,Bool.true_and,Option.map_some,Option.getD_some];rw [Array.all_eq_true_iff_forall_mem];intro e he;cases hb:Region.binds .any e
           · rfl
           · cases hg:listed.getD e.on false
             · exact absurd ⟨e,he,hb,hg⟩ hne
             · rfl
         obtain ⟨e,he,hb,hg⟩:=this;have hlt:=hback i ops[i] (Array.getElem?_eq_getElem hio) e he hb;refine ihi e.on hlt (by omega) ?_;simp [Array.getD,show e.on < listed.size by omega] at hg ⊢;exact hg
   simp only [Region.linearise.go];generalize hrl:(List.range ops.size).filter (fun i=>!listed.getD i true && ((ops[i]?).map (·.after.all fun e=>!Region.binds .any e || listed.getD e.on false)).getD false)=rs;have hmem:∀ i,i∈rs→i < ops.size∧ready ops listed i=true:=by
     intro i hi;rw [← hrl] at hi;obtain ⟨h1,h2⟩:=List.mem_filter.1 hi;exact ⟨List.mem_range.1 h1,h2⟩
   obtain ⟨i0,hi0,hr0⟩:=hrs;have hpos:0 < rs.length:=by
     have:i0∈rs:=(by rw [← hrl];exact List.mem_filter.2 ⟨List.mem_range.2 hi0,hr0⟩);exact List.length_pos_of_mem this
   have hlt:t % rs.length < rs.length:=Nat.mod_lt _ hpos;rw [List.getElem?_eq_getElem hlt];simp only [];obtain ⟨hi,hr⟩:=hmem _ (List.getElem_mem hlt);generalize rs[t % rs.length]=i at hi hr;have ho:=Array.getElem?_eq_getElem hi;unfold ready at hr;rw [ho] at hr;simp only [Option.map_some,Option.getD_some,Bool.and_eq_true,Bool.not_eq_true'] at hr;obtain ⟨hr1,hr2⟩:=hr;rw [Array.all_eq_true_iff_forall_mem] at hr2;have hdeps:∀ e∈ops[i].after,Region.binds .any e=true→listed.getD e.on true=true:=by
     intro e he hb;have:=hr2 e he;rw [hb] at this;simp only [Bool.not_true,Bool.false_or] at this;by_cases h:e.on < listed.size
     · simp [Array.getD,h] at this ⊢;exact this
     · simp [Array.getD,h] at this
   obtain ⟨s1,s2⟩:=step i ops[i] ho _ f w hr1 hdeps hJ;have hset:(fun j=>if j=i then true else listed.getD j true)=fun j=>(listed.setIfInBounds i true).getD j true:=by
     funext j;by_cases hj:j=i
     · subst hj;simp [Array.getD,show j < listed.size by omega]
     · simp only [hj,if_false];simp only [Array.getD_eq_getD_getElem?,Array.getElem?_setIfInBounds];rw [if_neg (fun e=>hj e.symm)]
   have hcount:((listed.setIfInBounds i true).toList.filter (! ·)).length=fuel:=by
     have hil:i < listed.toList.length:=(by simp;omega);have hfi:listed.toList[i]=false:=by
       simp [Array.getD,show i < listed.size by omega] at hr1;simpa using hr1
     have h1:listed.toList=listed.toList.take i++listed.toList[i] :: listed.toList.drop (i+1):=by
       rw [← List.drop_eq_getElem_cons hil,List.take_append_drop]
     have h2:(listed.setIfInBounds i true).toList=listed.toList.take i++true :: listed.toList.drop (i+1):=by
       rw [Array.toList_setIfInBounds,List.set_eq_take_append_cons_drop,if_pos hil]
     rw [h1,hfi] at hc;rw [h2];simp only [List.filter_append,List.length_append,List.filter_cons,Bool.not_false,Bool.not_true,if_true,Bool.false_eq_true,if_false,List.length_cons] at hc ⊢;omega
   have hsz:(listed.setIfInBounds i true).size=ops.size:=(by simp [hs]);by_cases hw:q4a n ops f ops[i]=true
   · have h1:=s1 hw;have key:∀ v w',J (fun j=>if j=i then true else listed.getD j true) (updo f ops[i].dst v) w'→∃ l,Region.linearise.go .any ops fuel (t / rs.length) (listed.setIfInBounds i true) (i :: acc)=(i :: acc).reverse++l∧wpOpsIn n.fen 9 P ops Q' l (act n (updo f ops[i].dst v)) w':=by
       intro v w' hJ';rw [hset] at hJ';exact ih _ _ _ _ _ hsz hcount hJ'
     obtain ⟨l,hl⟩:∃ l,Region.linearise.go .any ops fuel (t / rs.length) (listed.setIfInBounds i true) (i :: acc)=(i :: acc).reverse++l:=lin_acc _ _ _ _ _;refine ⟨i :: l,by rw [hl];simp,?_⟩;simp only [wpOpsIn,ho];have hw':=hw;unfold q4a at hw';rw [if_pos (by exact hw')];refine RunZ.wp h1 (fun v w' hJ'=>?_) (fun c w' h=>h);obtain ⟨l',hl',hp⟩:=key v w' hJ';rw [hl] at hl';have:l=l':=List.append_cancel_left hl';rw [this];exact hp
   · have hw':q4a n ops f ops[i]=false:=(by simpa using hw);have hJ':=s2 hw';rw [hset] at hJ';obtain ⟨l,hl,hp⟩:=ih (t / rs.length) _ (i :: acc) _ _ hsz hcount hJ';refine ⟨i :: l,by rw [hl];simp,?_⟩;simp only [wpOpsIn,ho];unfold q4a at hw';rw [if_neg (by simpa [act] using hw'),act_put];exact ⟨fun _ _=>n.fn _,hp⟩
 where
 lin_acc (ops:Array Oper):∀ (fuel t:Nat) (listed:Array Bool) (acc:List Nat),∃ l,Region.linearise.go .any ops fuel t listed acc=acc.reverse++l:=by
   intro fuel;induction fuel with
   | zero=>intro t listed acc;exact ⟨[],by simp [Region.linearise.go]⟩
   | succ fuel ih =>
     intro t listed acc;simp only [Region.linearise.go];split
     · obtain ⟨l,hl⟩:=ih _ _ (_ :: acc);exact ⟨_ :: l,by rw [hl];simp;rfl⟩
     · exact ⟨[],by simp⟩
theorem W_drawZ {id:Nat} [hm:TMixed P] (J:(Nat→Bool)→Fr→World→Prop)
   (hback:(ops.toList.zipIdx.all fun p=>p.1.after.all fun e=>!Region.binds .any e || decide (e.on < p.2))=true)
   (h0:J (fun i=>decide (ops.size≤i)) f w.drew)
   (step:∀ i o,ops[i]?=some o→∀ (L:Nat→Bool) f w,L i=false→(∀ e∈o.after,Region.binds .any e=true→L e.on=true)→J L f w →
     (q4a n ops f o=true→RunZ P n o f w (fun c w'=>Q (.panic c) f w') fun v w'=>J (fun j=>if j=i then true else L j) (updo f o.dst v) w')∧(q4a n ops f o=false→J (fun j=>if j=i then true else L j) (updo f o.dst undef) w))
   (hend:∀ L f w,(∀ i,i < ops.size→L i=true)→J L f w→Q .normal f w):W P n (.region id ops true) Q f w:=by
 refine wpIn_region_draw fun t=>?_;have hb:∀ i o,ops[i]?=some o→∀ e∈o.after,Region.binds .any e=true→e.on < i:=by
   intro i o ho e he hbe
   have:=List.all_eq_true.1 hback (o,i) (by
     rw [List.mem_zipIdx_iff_getElem?];simpa using ho)
   have:=Array.all_eq_true_iff_forall_mem.1 this e he;rw [hbe] at this;simpa using this
 have hs:(Array.replicate ops.size false).size=ops.size:=by simp
 have hc:((Array.replicate ops.size false).toList.filter (! ·)).length=ops.size:=by simp
 obtain ⟨l,hl,hp⟩:=go_step (P:=P) (n:=n) (Q':=lift n Q) J (fun i o ho L f w h1 h2 h3=>⟨fun hw=>RunR.mono ((step i o ho L f w h1 h2 h3).1 hw) (fun c w' h=>⟨f,rfl,h⟩) (fun _ _ h=>h),(step i o ho L f w h1 h2 h3).2⟩) hb (fun L f w h1 h2=>⟨f,rfl,hend L f w h1 h2⟩) ops.size t (Array.replicate ops.size false) [] f w.drew hs hc (by
   have:(fun i=>(Array.replicate ops.size false).getD i true)=fun i=>decide (ops.size≤i):=by
     funext i
     by_cases h:i < ops.size
     · simp [Array.getD,h,show ¬ ops.size≤i by omega]
     · simp [Array.getD,h,show ops.size≤i by omega]
   rw [this];exact h0)
 have:Region.schedule (P.follows .mixedOrders) ops t=l:=by
   simp only [Region.schedule,hm.h,Bool.true_or,if_true,Region.linearise];simpa using hl
 rw [this];exact hp
def z2p (ops:Array Oper):Bool:=(ops.toList.filterMap (·.dst)).Nodup
theorem dsts_ne {ops:Array Oper} (h:z2p ops=true) {i j:Nat} {o q:Oper} {d:Tmp} (hi:ops[i]?=some o) (hj:ops[j]?=some q) (hd:o.dst=some d) (he:q.dst=some d):i=j:=by
 unfold z2p at h;have hn:(ops.toList.filterMap (·.dst)).Nodup:=of_decide_eq_true h;have hi':ops.toList[i]?=some o:=by simpa using hi
 have hj':ops.toList[j]?=some q:=by simpa using hj
 clear hi hj h;generalize ops.toList=l at hn hi' hj';induction l generalizing i j with
 | nil=>simp at hi'
 | cons a l ih =>
   have hmem:∀ (k:Nat) (p:Oper),l[k]?=some p→p.dst=some d→d∈l.filterMap (·.dst):=fun k p hk hp =>
     List.mem_filterMap.2 ⟨p,List.mem_of_getElem? hk,hp⟩
   cases i with
   | zero =>
     simp at hi';subst hi';cases j with
     | zero=>rfl
     | succ j =>
       simp at hj';rw [List.filterMap_cons_some hd] at hn;exact absurd (hmem j q hj' he) (List.nodup_cons.1 hn).1
   | succ i =>
     simp at hi';cases j with
     | zero =>
       simp at hj';subst hj';rw [List.filterMap_cons_some he] at hn;exact absurd (hmem i o hi' hd) (List.nodup_cons.1 hn).1
     | succ j =>
       simp at hj';have hn':(l.filterMap (·.dst)).Nodup:=by
         cases hb:a.dst with
         | none=>rw [List.filterMap_cons_none hb] at hn;exact hn
         | some b=>rw [List.filterMap_cons_some hb] at hn;exact (List.nodup_cons.1 hn).2
       rw [ih hn' hi' hj']
end Go.Proofs.K
namespace Go.Proofs.K
variable {P:Program}
theorem q2o {ty:TypeId} {k:Nat} (h:(P.info? ty).map (·.size)=some (k+1)):∃ i,P.info? ty=some i∧i.size ≠ 0:=by
 cases hq:P.info? ty with
 | none=>simp [hq] at h
 | some i=>exact ⟨i,rfl,by simp [hq] at h;omega⟩
def segsOk (P:Program) (fs:Array Field) (zs:List (List Value)):Bool :=
 fs.size == zs.length && (List.range fs.size).all fun i=>match fs[i]?,zs[i]? with
   | some fld,some z=>fld.offset == offs zs i && (P.info? fld.type).map (·.size) == some z.length
   | _,_=>false
theorem q3r {t:TypeId} {fs:Array Field} {zs:List (List Value)} (hu:P.underlying t=some (.struct fs)) (h:segsOk P fs zs=true) (hz:(P.info? t).bind (·.zero)=some (.agg zs.flatten.toArray)):TSegs P t zs:=by
 refine ⟨⟨fs,hu,?_,fun i fld hi=>?_⟩,hz⟩
 · simp [segsOk] at h;exact h.1
 · have hlt:i < fs.size:=(Array.getElem?_eq_some_iff.1 hi).1;unfold segsOk at h;rw [Bool.and_eq_true] at h;have:=List.all_eq_true.1 h.2 i (List.mem_range.2 hlt);rw [hi] at this;cases hz:zs[i]? with
   | none=>rw [hz] at this;cases this
   | some z =>
     rw [hz] at this;simp at this;exact ⟨z,rfl,this.1,by simpa using this.2⟩
theorem q0u {id:FuncId} {fn:Func} (h:P.funcs[id]?=some fn) (h1:(fn.name == "runtime.NumGoroutine")=false) (h2:fn.body.isNone=false):TFun P id:=⟨fn,h,h1,h2⟩
theorem q2l {t:TypeId} {z:List Value} {v:Value} {b:Nat} (h:(P.info? t).map (fun i=>(i.zero,i.size,i.bytes))=some (some v,z.length,b)) (hc:v.cells=z.toArray):TZero P t z:=by
 cases hq:P.info? t with
 | none=>simp [hq] at h
 | some i =>
   simp [hq] at h;exact ⟨⟨v,by simp [hq,h.1],hc⟩,by simp [hq,h.2.1]⟩
theorem q2r {t size b:Nat} {v:Option Value} (h:(P.info? t).map (fun i=>(i.zero,i.size,i.bytes))=some (v,size,b)):(P.info? t).map (·.size)=some size:=by
 cases hq:P.info? t with
 | none=>simp [hq] at h
 | some i=>simp [hq] at h;simp [h.2.1]
variable {n:NN} {Q:Exit→Fr→World→Prop} {K:Fr→World→Prop} {f:Fr} {w:World}
theorem tn (h:K f w):q9b K Q .normal f w:=h
theorem te {id:Nat} (h:Q (.exit id) f w):q9b K Q (.exit id) f w:=h
theorem tr (h:Q .ret f w):q9b K Q .ret f w:=h
theorem bn {id:Nat} (h:Q .normal f w):blockQ id Q .normal f w:=h
theorem br {id:Nat} (h:Q .ret f w):blockQ id Q .ret f w:=h
theorem bx {id:Nat} (h:Q .normal f w):blockQ id Q (.exit id) f w:=by
 show (bif Nat.beq id id then Q .normal f w else Q (.exit id) f w);rw [Nat.beq_refl];exact h
theorem fold {f:Fr} {d:Nat} {v:Value} (h:f d=v):f=upd f d v:=by rw [← h,z1l]
theorem z0a {P:Program} {d:Option Tmp} {t ty e:TypeId} {pos:String} {af:Array Edge} {g:Option (Nat × Bool)} {z:List Value} {len:Nat} {zs':List (List Value)} {cs:List Value} [hs:TSlice P ty e] [hz:TZero P e z] {r:List (Nat × Operand)}
   (hp:Parts n f (List.replicate len z) r zs') (hlen:Nat.ble (len * z.length) 65536=true) (hcs:zs'.flatten=cs) :
   X P n ⟨d,.buildSlice ty len r.toArray,t,pos,af,g⟩ f w=.ok (.value (.slice (some ⟨w.heap.size,0,none⟩) len len)) (w.alloc (.cells cs.toArray e)):=by
 subst hcs;exact X_buildSlice hp (by have:=Nat.le_of_ble_eq_true hlen;omega)
class TElem (P:Program) (e:TypeId) (size bytes:outParam Nat):Prop where
 h:∃ z:Value,(P.info? e).map (fun i=>(i.zero,i.size,i.bytes))=some (some z,size,bytes)∧z.cells.size=size∧0 < size
section
variable {P:Program} {ops:Array Oper} {rest:List Oper} {d:Tmp} {t ty e:TypeId} {pos:String} {af:Array Edge} {x y:Operand}
theorem z3d {dd:Option Tmp} {g:Option (Nat × Bool)} {z0 v:Value} [hs:TSlice P ty e] [hz:TZero P e [z0]] (hx:ev n f x=v) (h1:v.oneCell'=true) :
   X P n ⟨dd,.buildSlice ty 1 #[(0,x)],t,pos,af,g⟩ f w=.ok (.value (.slice (some ⟨w.heap.size,0,none⟩) 1 1)) (w.alloc (.cells [v].toArray e)):=by
 have hc:v.cells=[v].toArray:=by cases v <;> first | rfl | cases h1
 exact z0a (zs':=[[v]]) (cs:=[v]) (Parts.cons (c:=[v]) (z:=[z0]) hx hc Y Y (Parts.nil _)) Y Y
theorem X_lit2 {dd:Option Tmp} {g:Option (Nat × Bool)} {z0 v u:Value} [hs:TSlice P ty e] [hz:TZero P e [z0]] (hx:ev n f x=v) (hy:ev n f y=u) (h1:v.oneCell'=true) (h2:u.oneCell'=true) :
   X P n ⟨dd,.buildSlice ty 2 #[(0,x),(1,y)],t,pos,af,g⟩ f w=.ok (.value (.slice (some ⟨w.heap.size,0,none⟩) 2 2)) (w.alloc (.cells [v,u].toArray e)):=by
 have hc:v.cells=[v].toArray:=by cases v <;> first | rfl | cases h1
 have hc2:u.cells=[u].toArray:=by cases u <;> first | rfl | cases h2
 exact z0a (zs':=[[v],[u]]) (cs:=[v,u]) (Parts.cons (c:=[v]) (z:=[z0]) hx hc Y Y (Parts.cons (c:=[u]) (z:=[z0]) hy hc2 Y Y (Parts.nil _))) Y Y
theorem X_lit0 {dd:Option Tmp} {g:Option (Nat × Bool)} {z:List Value} [hs:TSlice P ty e] [hz:TZero P e z] :
   X P n ⟨dd,.buildSlice ty 0 #[],t,pos,af,g⟩ f w=.ok (.value (.slice (some ⟨w.heap.size,0,none⟩) 0 0)) (w.alloc (.cells [].toArray e)) :=
 z0a (zs':=[]) (cs:=[]) (Parts.nil _) (by simp) Y
theorem q4n {z0 v:Value} [hs:TSlice P ty e] [hz:TZero P e [z0]] (hx:ev n f x=v) (h1:v.oneCell'=true)
   (h:∀ u w',Row w' w.heap.size w'.heap.size 1 u 1 [v]→Ext w w'→w'.heap.size=w.heap.size+1→w'.ownsRow w.heap.size e 1 u 1 [v]→L P n ops Q rest (upd f d u) w') :
   L P n ops Q (⟨some d,.buildSlice ty 1 #[(0,x)],t,pos,af,none⟩ :: rest) f w:=by
 refine Ls (z3d hx h1) (h _ _ ?_ (q1k _ _) (by simp) (z4t w e 1 1 _ _ Y (by simp [maxLen]) (Nat.le_refl _)));have:=Row.lit w e 1 1 [v] Y (by simp [maxLen]);rwa [show (w.alloc (.cells [v].toArray e)).heap.size=w.heap.size+1 from by simp]
theorem L_lit2 {z0 v u:Value} [hs:TSlice P ty e] [hz:TZero P e [z0]] (hx:ev n f x=v) (hy:ev n f y=u) (h1:v.oneCell'=true) (h2:u.oneCell'=true)
   (h:∀ q w',Row w' w.heap.size w'.heap.size 1 q 2 [v,u]→Ext w w'→w'.heap.size=w.heap.size+1→w'.ownsRow w.heap.size e 1 q 2 [v,u]→L P n ops Q rest (upd f d q) w') :
   L P n ops Q (⟨some d,.buildSlice ty 2 #[(0,x),(1,y)],t,pos,af,none⟩ :: rest) f w:=by
 refine Ls (X_lit2 hx hy h1 h2) (h _ _ ?_ (q1k _ _) (by simp) (z4t w e 1 2 _ _ Y (by simp [maxLen]) (Nat.le_refl _)));have:=Row.lit w e 1 2 [v,u] Y (by simp [maxLen]);rwa [show (w.alloc (.cells [v,u].toArray e)).heap.size=w.heap.size+1 from by simp]
theorem z0c {z:List Value} {size:Nat} [hs:TSlice P ty e] [hz:TZero P e z] [TSz P e size]
   (h:∀ q w',Ext w w'→w'.heap.size=w.heap.size+1→w'.ownsRow w.heap.size e size q 0 []→L P n ops Q rest (upd f d q) w') :
   L P n ops Q (⟨some d,.buildSlice ty 0 #[],t,pos,af,none⟩ :: rest) f w :=
 Ls X_lit0 (h _ _ (q1k _ _) (by simp) (z4t w e size 0 _ [] (by simp) (by simp [maxLen]) (Nat.le_refl _)))
theorem q1u {lo hi size bytes m k base:Nat} {u v:Value} {xs ys:List Value} [ht:TSlice P ty e] [hz:TElem P e size bytes]
   (hx:ev n f x=v) (hy:ev n f y=u) (hown:w.ownsRow base e size v m xs) (hr:Row w lo hi size u k ys) (h1:∀ q∈ys,q.oneCell'=true) (hb:(m+k) * bytes≤140737488355328) (hm:m+k≤9223372036854775807) (hbase:base≤w.heap.size)
   (h:∀ v' w',w'.ownsRow base e size v' (m+k) (xs++ys)→w.grownBy w' v.ownBlock→(v'.ownBlock=v.ownBlock∨v'.ownBlock=some w.heap.size)→L P n ops Q rest (upd f d v') w') :
   L P n ops Q (⟨some d,.call ⟨.builtin .append,#[x,y],#[ty,ty]⟩,t,pos,af,none⟩ :: rest) f w:=by
 obtain ⟨z,h0,hzs,hsz⟩:=hz.h;haveI:TInfo P e size bytes z:=⟨h0⟩;obtain ⟨v',w',hX,h2,h3,h4⟩:=X_append (P:=P) (t:=t) (ty:=ty) (d:=some d) (pos:=pos) (af:=af) (g:=none) hx hy hzs hsz hown hr h1 hb hm hbase;exact Ls hX (h v' w' h2 h3 h4)
end
section
variable {ops:Array Oper} {rest:List Oper} {d:Option Tmp} {t ty ty':TypeId} {pos:String} {af:Array Edge} {g:Option (Nat × Bool)} {x y z:Operand} {k:Nat} {c:Bool} {tys:Array TypeId}
theorem z1c (h:L P n ops Q (⟨d,.move x,t,pos,af,g⟩ :: rest) f w):L P n ops Q (⟨d,.move x,t,pos,af,g⟩ :: rest) f w:=h
theorem q7l (h:L P n ops Q (⟨d,.assign x,t,pos,af,g⟩ :: rest) f w):L P n ops Q (⟨d,.assign x,t,pos,af,g⟩ :: rest) f w:=h
theorem z1b (h:L P n ops Q (⟨d,.pick x y z,t,pos,af,g⟩ :: rest) f w):L P n ops Q (⟨d,.pick x y z,t,pos,af,g⟩ :: rest) f w:=h
theorem i_add (h:L P n ops Q (⟨d,.binOp .add ty x y ty',t,pos,af,g⟩ :: rest) f w):L P n ops Q (⟨d,.binOp .add ty x y ty',t,pos,af,g⟩ :: rest) f w:=h
theorem i_eql (h:L P n ops Q (⟨d,.binOp .eql ty x y ty',t,pos,af,g⟩ :: rest) f w):L P n ops Q (⟨d,.binOp .eql ty x y ty',t,pos,af,g⟩ :: rest) f w:=h
theorem i_neq (h:L P n ops Q (⟨d,.binOp .neq ty x y ty',t,pos,af,g⟩ :: rest) f w):L P n ops Q (⟨d,.binOp .neq ty x y ty',t,pos,af,g⟩ :: rest) f w:=h
theorem i_lss (h:L P n ops Q (⟨d,.binOp .lss ty x y ty',t,pos,af,g⟩ :: rest) f w):L P n ops Q (⟨d,.binOp .lss ty x y ty',t,pos,af,g⟩ :: rest) f w:=h
theorem i_gtr (h:L P n ops Q (⟨d,.binOp .gtr ty x y ty',t,pos,af,g⟩ :: rest) f w):L P n ops Q (⟨d,.binOp .gtr ty x y ty',t,pos,af,g⟩ :: rest) f w:=h
theorem i_ext (h:L P n ops Q (⟨d,.extract x k,t,pos,af,g⟩ :: rest) f w):L P n ops Q (⟨d,.extract x k,t,pos,af,g⟩ :: rest) f w:=h
theorem i_index (h:L P n ops Q (⟨d,.index ty x y,t,pos,af,g⟩ :: rest) f w):L P n ops Q (⟨d,.index ty x y,t,pos,af,g⟩ :: rest) f w:=h
theorem z3w (h:L P n ops Q (⟨d,.load ty x,t,pos,af,g⟩ :: rest) f w):L P n ops Q (⟨d,.load ty x,t,pos,af,g⟩ :: rest) f w:=h
theorem i_fld (h:L P n ops Q (⟨d,.fieldAddr ty x k,t,pos,af,g⟩ :: rest) f w):L P n ops Q (⟨d,.fieldAddr ty x k,t,pos,af,g⟩ :: rest) f w:=h
theorem i_len {a_:Array Operand} (h:L P n ops Q (⟨d,.call ⟨.builtin .len,a_,tys⟩,t,pos,af,g⟩ :: rest) f w):L P n ops Q (⟨d,.call ⟨.builtin .len,a_,tys⟩,t,pos,af,g⟩ :: rest) f w:=h
end
end Go.Proofs.K
namespace Go.Proofs.K
open Go.RowKit
variable {P:Program} {n:NN} {Q:Exit→Fr→World→Prop} {f:Fr} {w:World} {ops:Array Oper}
abbrev Rho:=Nat→Value
def rset (r:Rho) (k:Nat) (v:Value):Rho:=fun i=>bif Nat.beq i k then v else r i
theorem q6b (r:Rho) (k:Nat) (v:Value):rset r k v k=v:=by simp [rset]
theorem z0h (r:Rho) {k i:Nat} (v:Value) (h:i ≠ k):rset r k v i=r i:=by simp [rset,z0t h]
inductive Ent where
 | st (V:Rho→Value)
 | op (F:Rho→World→Prop)
def Ent.val:Ent→Nat→Rho→Value
 | .st V,_,r=>V r
 | .op _,k,r=>r k
def Ent.fact:Ent→Rho→World→Prop
 | .st _,_,_=>True
 | .op F,r,w=>F r w
def deps (o:Oper):List Nat:=(o.after.toList.filter (Region.binds .any)).map (·.on)
def z1g:List Oper→List Nat→List Nat
 | [],acc=>acc
 | o :: r,acc=>z1g r (acc++[(deps o).foldl (fun s j=>s ||| 2 ^ j ||| acc.getD j 0) 0])
def td (ops:Array Oper) (k j:Nat):Bool:=((z1g ops.toList []).getD k 0).testBit j
theorem z0z:∀ (l:List Oper) (acc:List Nat),(z1g l acc).length=acc.length+l.length
 | [],_=>rfl
 | o :: l,acc=>by unfold z1g;rw [z0z l];simp;omega
theorem z0y:∀ (l:List Oper) (acc:List Nat),∃ r,z1g l acc=acc++r
 | [],acc=>⟨[],by simp [z1g]⟩
 | o :: l,acc=>by
   obtain ⟨r,hr⟩:=z0y l (acc++[(deps o).foldl (fun s j=>s ||| 2 ^ j ||| acc.getD j 0) 0]);exact ⟨(deps o).foldl (fun s j=>s ||| 2 ^ j ||| acc.getD j 0) 0 :: r,by rw [z1g,hr];simp⟩
theorem foldl_bit (acc:List Nat) (j:Nat):∀ (l:List Nat) (s:Nat),(l.foldl (fun s i=>s ||| 2 ^ i ||| acc.getD i 0) s).testBit j=true→s.testBit j=true∨∃ i∈l,j=i∨(acc.getD i 0).testBit j=true
 | [],s,h=>.inl h
 | i :: l,s,h=>by
   rcases foldl_bit acc j l _ h with h | ⟨i',hi,h⟩
   · simp only [Nat.testBit_or,Bool.or_eq_true,Nat.testBit_two_pow,decide_eq_true_eq] at h;rcases h with (h | h) | h
     · exact .inl h
     · exact .inr ⟨i,List.mem_cons_self ..,.inl h.symm⟩
     · exact .inr ⟨i,List.mem_cons_self ..,.inr h⟩
   · exact .inr ⟨i',List.mem_cons_of_mem _ hi,h⟩
theorem maskL_dep (j:Nat):∀ (l:List Oper) (acc:List Nat) (k:Nat) (o:Oper),l[k]?=some o→((z1g l acc).getD (acc.length+k) 0).testBit j=true→(∀ i∈deps o,i < acc.length+k) →
   ∃ i∈deps o,j=i∨((z1g l acc).getD i 0).testBit j=true
 | [],_,_,_,h,_,_=>by simp at h
 | q :: l,acc,0,o,h,hb,hd=>by
   simp at h;subst h;obtain ⟨r,hr⟩:=z0y l (acc++[(deps q).foldl (fun s j=>s ||| 2 ^ j ||| acc.getD j 0) 0]);have hm:z1g (q :: l) acc=acc++((deps q).foldl (fun s j=>s ||| 2 ^ j ||| acc.getD j 0) 0 :: r):=(by rw [z1g,hr];simp);have hb':((deps q).foldl (fun s j=>s ||| 2 ^ j ||| acc.getD j 0) 0).testBit j=true:=by
     rw [hm] at hb;simpa [List.getD_eq_getElem?_getD] using hb
   rcases foldl_bit acc j _ _ hb' with h | ⟨i,hi,h⟩
   · simp at h
   · refine ⟨i,hi,h.imp id fun h=>?_⟩;rw [hm];have hlt:=hd i hi;simp only [Nat.add_zero] at hlt;rw [List.getD_eq_getElem?_getD,List.getElem?_append_left hlt,← List.getD_eq_getElem?_getD];exact h
 | q :: l,acc,k+1,o,h,hb,hd=>by
   simp at h;have e:acc.length+(k+1)=(acc++[(deps q).foldl (fun s j=>s ||| 2 ^ j ||| acc.getD j 0) 0]).length+k:=(by simp;omega);rw [z1g] at hb ⊢;rw [e] at hb hd;exact maskL_dep j l _ k o h hb hd
inductive DW (R:Nat→World→World→Prop) (P:Program) (n:NN) (ops:Array Oper) (A:Nat→World→Prop) (Fin:List Oper→(Rho→Fr)→(Rho→Nat→World→Prop)→Prop):List Oper→Nat→List Ent→(Rho→Fr)→(Rho→Nat→World→Prop)→Prop
 | fin {tail:List Oper} {k:Nat} {g:Rho→Fr} {H:Rho→Nat→World→Prop} (h:Fin tail g H):DW R P n ops A Fin tail k [] g H
 | st {o:Oper} {rest:List Oper} {k:Nat} {V:Rho→Value} {E:List Ent} {g:Rho→Fr} {H:Rho→Nat→World→Prop}
     (h:∀ r w,A k w→(∀ j,td ops k j=true→H r j w)→(q4a n ops (g r) o=true→Run P n o (g r) w fun v w'=>v=V r∧R k w w')∧(q4a n ops (g r) o=false→V r=undef))
     (hr:DW R P n ops A Fin rest (k+1) E (fun r=>updo (g r) o.dst (V r)) H):DW R P n ops A Fin (o :: rest) k (.st V :: E) g H
 | op {o:Oper} {rest:List Oper} {k:Nat} {F:Rho→World→Prop} {E:List Ent} {g:Rho→Fr} {H:Rho→Nat→World→Prop}
     (h:∀ r w,A k w→(∀ j,td ops k j=true→H r j w)→q4a n ops (g r) o=true∧Run P n o (g r) w fun v w'=>R k w w'∧F (rset r k v) w')
     (hF:∀ i r w w',i ≠ k→td ops k i=false→R i w w'→F r w→F r w')
     (hr:DW R P n ops A Fin rest (k+1) E (fun r=>updo (g r) o.dst (r k)) (fun r j w=>bif Nat.beq j k then F r w else H r j w)):DW R P n ops A Fin (o :: rest) k (.op F :: E) g H
def opTmps (o:Oper):List Nat:=o.op.operands.toList.filterMap fun | .tmp t=>some t | _=>none
def guardOf (o:Oper):List Nat:=match o.guard with | none=>[] | some (j,_)=>[j]
def q3j (ops:List Oper) (t:Nat):Option Nat:=ops.findIdx? (fun o=>o.dst == some t)
def readsOk (ops:List Oper) (k:Nat) (o:Oper):Bool :=
 ((opTmps o).all fun t=>match q3j ops t with
   | none=>true
   | some j=>if j < k then (deps o).contains j else if j=k then true else (deps (ops.getD j default)).contains k) &&
 ((guardOf o).all fun j=>(deps o).contains j && decide (j < k))
def noSel:Op→Bool
 | .select ..=>false
 | _=>true
def dagOk (ops:Array Oper) (m:Nat):Bool :=
 (ops.toList.zipIdx.all fun p=>(deps p.1).all fun j=>decide (j < p.2)) && z2p ops && decide (m≤ops.size) &&
 (ops.toList.zipIdx.all fun p=>if p.2 < m then noSel p.1.op && readsOk (ops.toList.take m) p.2 p.1 else (List.range p.2).all fun j=>td ops p.2 j)
theorem q4z {α β:Type} {g h:α→β} (l:Array α) (H:∀ x∈l,g x=h x):l.map g=l.map h:=by
 apply Array.ext_getElem?;intro i;simp only [Array.getElem?_map];cases hi:l[i]? with
 | none=>rfl
 | some x=>simp [H x (Array.mem_of_getElem? hi)]
theorem q5s {α β:Type} {g h:α→β} (l:Option α) (H:∀ x,l=some x→g x=h x):l.map g=l.map h:=by
 cases l with
 | none=>rfl
 | some x=>simp [H x Y]
theorem exec_congr (p q:Operand→Value) (o:Oper) (hs:noSel o.op=true) (h:∀ x∈o.op.operands,p x=q x):execOp p o=execOp q o:=by
 have hcall:∀ c:Call,(∀ x∈c.operands,p x=q x)→resolve p c o.type=resolve q c o.type:=by
   intro c hc;have ha:c.args.map p=c.args.map q:=q4z _ fun x hx=>hc x (by unfold Call.operands;exact Array.mem_append.2 (.inr hx));unfold resolve;rw [ha];cases hcc:c.callee with
   | value f =>
     have:p f=q f:=hc f (by unfold Call.operands;rw [hcc];simp);simp only [this]
   | invoke r m =>
     have:p r=q r:=hc r (by unfold Call.operands;rw [hcc];simp);simp only [this]
   | builtin b=>rfl
 unfold execOp;cases ho:o.op
 case build t parts =>
   rw [ho] at h
   have:(parts.map fun (i,x)=>(i,p x))=(parts.map fun (i,x)=>(i,q x)):=q4z _ fun x hx=>by
     show (x.1,p x.2)=(x.1,q x.2);rw [h x.2 (by simp only [Op.operands];exact List.mem_toArray.2 (List.mem_map.2 ⟨x,by simpa using hx,rfl⟩))]
   simp only [this]
 case buildSlice t len parts =>
   rw [ho] at h
   have:(parts.map fun (i,x)=>(i,p x))=(parts.map fun (i,x)=>(i,q x)):=q4z _ fun x hx=>by
     show (x.1,p x.2)=(x.1,q x.2);rw [h x.2 (by simp only [Op.operands];exact List.mem_toArray.2 (List.mem_map.2 ⟨x,by simpa using hx,rfl⟩))]
   simp only [this]
 case call c=>rw [ho] at h;simp only [hcall c h]
 case go c=>rw [ho] at h;simp only [hcall c h]
 case defer c=>rw [ho] at h;simp only [hcall c h]
 case makeFunc fn first cap =>
   rw [ho] at h
   simp only [Op.operands] at h
   have e1:first.map p=first.map q:=q4z first fun x hx=>h x (Array.mem_append.2 (.inl hx))
   have e2:cap.map p=cap.map q:=q4z cap fun x hx=>h x (Array.mem_append.2 (.inr hx))
   simp only [e1,e2]
 case makeMap t r =>
   rw [ho] at h
   have e1:r.map p=r.map q:=q5s r fun x hx=>h x (by subst hx;simp [Op.operands])
   simp only [e1]
 case slice t x l hh m =>
   rw [ho] at h
   have h0:=h x (by simp [Op.operands])
   have e1:l.map p=l.map q:=q5s l fun y hy=>h y (by subst hy;simp [Op.operands])
   have e2:hh.map p=hh.map q:=q5s hh fun y hy=>h y (by subst hy;simp [Op.operands])
   have e3:m.map p=m.map q:=q5s m fun y hy=>h y (by subst hy;simp [Op.operands])
   simp only [h0,e1,e2,e3]
 case select=>rw [ho] at hs;cases hs
 all_goals
   first
     | rfl
     | (rw [ho] at h
        simp only [Op.operands,List.mem_toArray,List.mem_cons,forall_eq_or_imp,List.not_mem_nil,false_implies,implies_true,and_true] at h
        simp only [h])
theorem mem_deps {o:Oper} {e:Edge} (he:e∈o.after) (hb:Region.binds .any e=true):e.on∈deps o :=
 List.mem_map.2 ⟨e,List.mem_filter.2 ⟨by simpa using he,hb⟩,rfl⟩
theorem of_mem_deps {o:Oper} {j:Nat} (h:j∈deps o):∃ e∈o.after,Region.binds .any e=true∧e.on=j:=by
 obtain ⟨e,he,rfl⟩:=List.mem_map.1 h;obtain ⟨h1,h2⟩:=List.mem_filter.1 he;exact ⟨e,by simpa using h1,h2,rfl⟩
structure DagFacts (ops:Array Oper) (m:Nat):Prop where
 back:∀ i o,ops[i]?=some o→∀ j∈deps o,j < i
 dst:z2p ops=true
 le:m≤ops.size
 reads:∀ i o,ops[i]?=some o→i < m→noSel o.op=true∧readsOk (ops.toList.take m) i o=true
 tail:∀ i o,ops[i]?=some o→m≤i→∀ j,j < i→td ops i j=true
theorem dagFacts {ops:Array Oper} {m:Nat} (h:dagOk ops m=true):DagFacts ops m:=by
 unfold dagOk at h;simp only [Bool.and_eq_true] at h;obtain ⟨⟨⟨h1,h2⟩,h3⟩,h4⟩:=h;have mem:∀ i o,ops[i]?=some o→(o,i)∈ops.toList.zipIdx:=fun i o ho=>by rw [List.mem_zipIdx_iff_getElem?];simpa using ho
 refine ⟨fun i o ho j hj=>?_,h2,of_decide_eq_true h3,fun i o ho hi=>?_,fun i o ho hi j hj=>?_⟩
 · exact of_decide_eq_true (List.all_eq_true.1 (List.all_eq_true.1 h1 _ (mem i o ho)) j hj)
 · have:=List.all_eq_true.1 h4 _ (mem i o ho);simp only [hi,if_true,Bool.and_eq_true] at this;exact this
 · have:=List.all_eq_true.1 h4 _ (mem i o ho);simp only [show ¬ i < m by omega,if_false] at this;exact List.all_eq_true.1 this j (List.mem_range.2 hj)
theorem td_dep {m:Nat} (D:DagFacts ops m) {k j:Nat} {o:Oper} (ho:ops[k]?=some o) (h:td ops k j=true):∃ i∈deps o,j=i∨td ops i j=true:=by
 have:=maskL_dep j ops.toList [] k o (by simpa using ho) (by simpa [td] using h) (by simpa using D.back k o ho);exact this
theorem td_lt {m:Nat} (D:DagFacts ops m):∀ (k j:Nat) (o:Oper),ops[k]?=some o→td ops k j=true→j < k:=by
 intro k;induction k using Nat.strongRecOn with
 | _ k ih =>
   intro j o ho h;obtain ⟨i,hi,h'⟩:=td_dep D ho h;have hik:=D.back k o ho i hi;rcases h' with rfl | h'
   · exact hik
   · have hlt:i < ops.size:=(by have:=(Array.getElem?_eq_some_iff.1 ho).1;omega);have:=ih i hik j ops[i] (Array.getElem?_eq_getElem hlt) h';omega
def q9a (ops:Array Oper) (L:Nat→Bool):Prop:=∀ i o,ops[i]?=some o→L i=true→∀ j∈deps o,L j=true
theorem q9a.td {m:Nat} (D:DagFacts ops m) {L:Nat→Bool} (hc:q9a ops L):∀ (k j:Nat) (o:Oper),ops[k]?=some o→(∀ i∈deps o,L i=true)→td ops k j=true→L j=true:=by
 intro k;induction k using Nat.strongRecOn with
 | _ k ih =>
   intro j o ho hL h;obtain ⟨i,hi,h'⟩:=td_dep D ho h;have hik:=D.back k o ho i hi;rcases h' with rfl | h'
   · exact hL _ hi
   · have hlt:i < ops.size:=(by have:=(Array.getElem?_eq_some_iff.1 ho).1;omega);have hoi:=Array.getElem?_eq_getElem hlt;exact ih i hik j ops[i] hoi (hc i _ hoi (hL i hi)) h'
theorem q3g {l:List Oper} {t j:Nat} (h:q3j l t=some j):∃ o,l[j]?=some o∧o.dst=some t:=by
 unfold q3j at h;rw [List.findIdx?_eq_some_iff_getElem] at h;obtain ⟨hlt,hp,_⟩:=h;exact ⟨l[j],List.getElem?_eq_getElem hlt,by simpa using hp⟩
theorem q7d {l:List Oper} {t:Nat} (h:q3j l t=none):∀ (j:Nat) (o:Oper),l[j]?=some o→o.dst ≠ some t:=by
 unfold q3j at h;rw [List.findIdx?_eq_none_iff] at h;intro j o ho hd;have:=h o (List.mem_of_getElem? ho);simp [hd] at this
theorem q7w {m:Nat} (hd:z2p ops=true) {t j:Nat} {o:Oper} (ho:ops[j]?=some o) (hj:j < m) (he:o.dst=some t):q3j (ops.toList.take m) t=some j:=by
 cases hw:q3j (ops.toList.take m) t with
 | none =>
   exact absurd he (q7d hw j o (by rw [List.getElem?_take];simp [hj];simpa using ho))
 | some i =>
   obtain ⟨q,hq,hqd⟩:=q3g hw;rw [List.getElem?_take] at hq;split at hq
   · have:=dsts_ne hd (by simpa using hq) ho hqd he;rw [this]
   · cases hq
def frAt (ops:Array Oper) (E:List Ent) (k:Nat) (f:Fr) (r:Rho):Fr:=fun t=>match q3j (ops.toList.take k) t with
 | some j=>(E.getD j (.op fun _ _=>True)).val j r
 | none=>f t
def z0q (E:List Ent) (j:Nat) (r:Rho) (w:World):Prop:=(E.getD j (.st fun _=>undef)).fact r w
theorem frAt_succ {E:List Ent} (hd:z2p ops=true) {k:Nat} {o:Oper} (ho:ops[k]?=some o) (f:Fr) (r:Rho) :
   frAt ops E (k+1) f r=updo (frAt ops E k f r) o.dst ((E.getD k (.op fun _ _=>True)).val k r):=by
 funext t;have hlt:=(Array.getElem?_eq_some_iff.1 ho).1;have key:∀ i,i < k→q3j (ops.toList.take k) t=some i→q3j (ops.toList.take (k+1)) t=some i:=by
   intro i hi hw;obtain ⟨q,hq,hqd⟩:=q3g hw;rw [List.getElem?_take] at hq;simp [hi] at hq;exact q7w hd (by simpa using hq) (by omega) hqd
 cases hod:o.dst with
 | none =>
   simp only [updo,frAt];cases hw:q3j (ops.toList.take k) t with
   | some i =>
     obtain ⟨q,hq,_⟩:=q3g hw;have hi:i < k:=by
       rw [List.getElem?_take] at hq;split at hq
       · assumption
       · cases hq
     rw [key i hi hw]
   | none =>
     have:q3j (ops.toList.take (k+1)) t=none:=by
       cases hw':q3j (ops.toList.take (k+1)) t with
       | none=>rfl
       | some i =>
         obtain ⟨q,hq,hqd⟩:=q3g hw';rw [List.getElem?_take] at hq;split at hq
         · rename_i hi;by_cases hik:i=k
           · subst hik;have:some q=some o:=(by rw [← ho,← hq];simp);injection this with this;subst this;rw [hod] at hqd;cases hqd
           · exact absurd hqd (q7d hw i q (by rw [List.getElem?_take];simp [show i < k by omega];simpa using hq))
         · cases hq
     rw [this]
 | some d =>
   by_cases htd:t=d
   · subst htd;rw [show updo (frAt ops E k f r) (some t) ((E.getD k (.op fun _ _=>True)).val k r) t=(E.getD k (.op fun _ _=>True)).val k r from z1m _ _ _];simp only [frAt];rw [q7w hd ho (by omega) hod]
   · rw [show updo (frAt ops E k f r) (some d) ((E.getD k (.op fun _ _=>True)).val k r) t=frAt ops E k f r t from z1w _ _ htd];simp only [frAt];cases hw:q3j (ops.toList.take k) t with
     | some i =>
       obtain ⟨q,hq,_⟩:=q3g hw;have hi:i < k:=by
         rw [List.getElem?_take] at hq;split at hq
         · assumption
         · cases hq
       rw [key i hi hw]
     | none =>
       have:q3j (ops.toList.take (k+1)) t=none:=by
         cases hw':q3j (ops.toList.take (k+1)) t with
         | none=>rfl
         | some i =>
           obtain ⟨q,hq,hqd⟩:=q3g hw';rw [List.getElem?_take] at hq;split at hq
           · rename_i hi;by_cases hik:i=k
             · subst hik;have:some q=some o:=(by rw [← ho,← hq];simp);injection this with this;subst this;rw [hod] at hqd;injection hqd with hqd;exact absurd hqd.symm htd
             · exact absurd hqd (q7d hw i q (by rw [List.getElem?_take];simp [show i < k by omega];simpa using hq))
           · cases hq
       rw [this]
def StepE (R:Nat→World→World→Prop) (P:Program) (n:NN) (ops:Array Oper) (A:Nat→World→Prop) (g:Rho→Fr) (H:Rho→Nat→World→Prop) (k:Nat) (o:Oper):Ent→Prop
 | .st V=>∀ r w,A k w→(∀ j,td ops k j=true→H r j w)→(q4a n ops (g r) o=true→Run P n o (g r) w fun v w'=>v=V r∧R k w w')∧(q4a n ops (g r) o=false→V r=undef)
 | .op F=>(∀ r w,A k w→(∀ j,td ops k j=true→H r j w)→q4a n ops (g r) o=true∧Run P n o (g r) w fun v w'=>R k w w'∧F (rset r k v) w')∧∀ i r w w',i ≠ k→td ops k i=false→R i w w'→F r w→F r w'
theorem q9p {α:Type} {l:List α} {k:Nat} {a:α} {r:List α} (h:a :: r=l.drop k):l[k]?=some a∧r=l.drop (k+1):=by
 have h1:l[k]?=some a:=by
   have:=congrArg (fun q=>q[0]?) h;simpa using this.symm
 refine ⟨h1,?_⟩;have:=congrArg List.tail h;simpa using this
theorem DW.flat {R:Nat→World→World→Prop} {m:Nat} {A:Nat→World→Prop} {Fin:List Oper→(Rho→Fr)→(Rho→Nat→World→Prop)→Prop} (D:DagFacts ops m) {E0:List Ent} (hm:E0.length=m)
   {l:List Oper} {k:Nat} {E:List Ent} {g:Rho→Fr} {H:Rho→Nat→World→Prop} (h:DW R P n ops A Fin l k E g H) :
   k≤m→l=ops.toList.drop k→E=E0.drop k→(g=fun r=>frAt ops E0 k f r)→(∀ r j w,(j < k→z0q E0 j r w)→H r j w) →
   (∀ i,k≤i→i < m→∀ o e,ops[i]?=some o→E0[i]?=some e→StepE R P n ops A (fun r=>frAt ops E0 i f r) (fun r j w=>z0q E0 j r w) i o e) ∧
   ∃ g' H',Fin (ops.toList.drop m) g' H'∧(g'=fun r=>frAt ops E0 m f r)∧(∀ r j w,(j < m→z0q E0 j r w)→H' r j w):=by
 induction h with
 | @fin tail k g H hfin =>
   intro hkm hl hE hg hH;have hk:m≤k:=by
     have:=congrArg List.length hE;simp at this;omega
   obtain rfl:k=m:=(by omega);exact ⟨fun i hi hlt=>by omega,g,H,by rw [← hl];exact hfin,hg,hH⟩
 | @st o rest k V E g H h hr ih =>
   intro hkm hl hE hg hH;obtain ⟨ho,hl'⟩:=q9p hl;obtain ⟨he,hE'⟩:=q9p hE;have hk:k < m:=(by rw [← hm];exact (List.getElem?_eq_some_iff.1 he).1);have ho':ops[k]?=some o:=(by simpa using ho);have hval:(E0.getD k (.op fun _ _=>True))=.st V:=(by rw [List.getD_eq_getElem?_getD,he];rfl)
   obtain ⟨h1,h2⟩:=ih (by omega) hl' hE' (by
     funext r
     rw [frAt_succ D.dst ho',hval]
     subst hg;rfl) (fun r j w hj=>hH r j w fun hjk=>hj (by omega))
   refine ⟨fun i hi him o' e' hoi hei=>?_,h2⟩;rcases Nat.eq_or_lt_of_le hi with rfl | hlt
   · rw [ho'] at hoi;injection hoi with hoi;subst hoi;rw [he] at hei;injection hei with hei;subst hei;intro r w hA hf;have:=h r w hA (fun j hj=>hH r j w fun _=>hf j hj);subst hg;exact this
   · exact h1 i hlt him o' e' hoi hei
 | @op o rest k F E g H h hF hr ih =>
   intro hkm hl hE hg hH;obtain ⟨ho,hl'⟩:=q9p hl;obtain ⟨he,hE'⟩:=q9p hE;have hk:k < m:=(by rw [← hm];exact (List.getElem?_eq_some_iff.1 he).1);have ho':ops[k]?=some o:=(by simpa using ho);have hval:(E0.getD k (.op fun _ _=>True))=.op F:=(by rw [List.getD_eq_getElem?_getD,he];rfl);have hval':(E0.getD k (.st fun _=>undef))=.op F:=(by rw [List.getD_eq_getElem?_getD,he];rfl)
   obtain ⟨h1,h2⟩:=ih (by omega) hl' hE' (by
     funext r
     rw [frAt_succ D.dst ho',hval]
     subst hg;rfl) (fun r j w hj=>by
       show bif Nat.beq j k then F r w else H r j w
       by_cases hjk:j=k
       · subst hjk
         have:=hj (by omega)
         unfold z0q at this
         rw [hval'] at this
         rw [Nat.beq_refl];exact this
       · rw [z0t hjk]
         exact hH r j w fun hlt=>hj (by omega))
   refine ⟨fun i hi him o' e' hoi hei=>?_,h2⟩;rcases Nat.eq_or_lt_of_le hi with rfl | hlt
   · rw [ho'] at hoi;injection hoi with hoi;subst hoi;rw [he] at hei;injection hei with hei;subst hei;refine ⟨fun r w hA hf=>?_,hF⟩;have:=h r w hA (fun j hj=>hH r j w fun _=>hf j hj);subst hg;exact this
   · exact h1 i hlt him o' e' hoi hei
def Insens (i:Nat):Ent→Prop
 | .st V=>∀ r v,V (rset r i v)=V r
 | .op F=>∀ r v,F (rset r i v)=F r
def InsL (ops:Array Oper) (i:Nat):List Ent→Nat→Prop
 | [],_=>True
 | e :: E,j=>(td ops j i=true∨i=j∨Insens i e)∧InsL ops i E (j+1)
def q7t (ops:Array Oper) (E0:List Ent):List Ent→Nat→Prop
 | [],_=>True
 | .st _ :: E,k=>q7t ops E0 E (k+1)
 | .op _ :: E,k=>InsL ops k E0 0∧q7t ops E0 E (k+1)
theorem InsL.at {i:Nat}:∀ {E:List Ent} {j0 j:Nat} {e:Ent},InsL ops i E j0→E[j]?=some e→td ops (j0+j) i=true∨i=j0+j∨Insens i e
 | [],_,_,_,_,h=>by simp at h
 | e' :: E,j0,0,e,hi,h=>by simp at h;subst h;exact hi.1
 | e' :: E,j0,j+1,e,hi,h=>by
   simp at h;have:=InsL.at hi.2 h;rwa [show j0+(j+1)=j0+1+j from by omega]
theorem q7t.at {E0:List Ent}:∀ {E:List Ent} {k0 k:Nat} {F:Rho→World→Prop},q7t ops E0 E k0→E[k]?=some (.op F)→InsL ops (k0+k) E0 0
 | [],_,_,_,_,h=>by simp at h
 | .st _ :: E,k0,0,F,_,h=>by simp at h
 | .op _ :: E,k0,0,F,hi,_=>hi.1
 | .st _ :: E,k0,k+1,F,hi,h=>by
   simp at h;have:=q7t.at (k0:=k0+1) hi h;rwa [show k0+(k+1)=k0+1+k from by omega]
 | .op _ :: E,k0,k+1,F,hi,h=>by
   simp at h;have:=q7t.at (k0:=k0+1) hi.2 h;rwa [show k0+(k+1)=k0+1+k from by omega]
theorem ev_agree {o:Oper} {f g:Fr} (hs:noSel o.op=true) (h:∀ t∈opTmps o,f t=g t) {w:World}:X P n o f w=X P n o g w:=by
 unfold X;rw [exec_congr (ev n f) (ev n g) o hs];intro x hx;cases x with
 | tmp t =>
   have:f t=g t:=h t (List.mem_filterMap.2 ⟨.tmp t,by simpa using hx,rfl⟩);simp [ev,this]
 | _=>rfl
theorem Run_agree {o:Oper} {f g:Fr} {K:Value→World→Prop} (hs:noSel o.op=true) (h:∀ t∈opTmps o,f t=g t) (hr:Run P n o g w K):Run P n o f w K:=by
 unfold Run at hr ⊢;rw [ev_agree hs h];exact hr
def frL (ops:Array Oper) (E:List Ent) (m:Nat) (L:Nat→Bool) (f:Fr) (r:Rho):Fr:=fun t=>match q3j (ops.toList.take m) t with
 | some j=>bif L j then (E.getD j (.op fun _ _=>True)).val j r else f t
 | none=>f t
theorem writer_take {m k t:Nat} (hd:z2p ops=true) (hk:k≤m):q3j (ops.toList.take k) t=match q3j (ops.toList.take m) t with
   | some j=>if j < k then some j else none
   | none=>none:=by
 cases hw:q3j (ops.toList.take k) t with
 | some i =>
   obtain ⟨q,hq,hqd⟩:=q3g hw;rw [List.getElem?_take] at hq;split at hq
   · rename_i hi;rw [q7w hd (by simpa using hq) (by omega) hqd];simp [hi]
   · cases hq
 | none =>
   cases hw':q3j (ops.toList.take m) t with
   | none=>rfl
   | some j =>
     obtain ⟨q,hq,hqd⟩:=q3g hw';rw [List.getElem?_take] at hq;split at hq
     · by_cases hj:j < k
       · exact absurd hqd (q7d hw j q (by rw [List.getElem?_take];simp [hj];simpa using hq))
       · simp [hj]
     · cases hq
def Done1 (k:Nat) (L:Nat→Bool):Nat→Bool:=fun j=>if j=k then true else L j
theorem W_dagL {R:Nat→World→World→Prop} {id:Nat} [hmx:TMixed P] {E:List Ent} (m:Nat) (AL:(Nat→Bool)→World→Prop) (A:Nat→World→Prop) (AF:World→Prop) (hm:E.length=m) (hok:dagOk ops m=true) (hins:q7t ops E E 0)
   (hR0:∀ i w,R i w w) (hA0:∀ L,(∀ i,i < m→L i=false)→AL L w.drew)
   (hAk:∀ L k w',k < m→L k=false→(∀ j,td ops k j=true→L j=true)→(∀ j,td ops j k=true→L j=false)→AL L w'→A k w')
   (hA:∀ L k w' w'',k < m→L k=false→(∀ j,td ops k j=true→L j=true)→(∀ j,td ops j k=true→L j=false)→R k w' w''→AL L w'→AL (Done1 k L) w'')
   (hAF:∀ L w',(∀ i,i < m→L i=true)→AL L w'→AF w')
   (h:DW R P n ops A (fun tail g H=>∀ r w',AF w'→(∀ j,H r j w')→L P n ops Q tail (g r) w') ops.toList 0 E (fun _=>f) (fun _ _ _=>True)) :
   W P n (.region id ops true) Q f w:=by
 have D:=dagFacts hok;obtain ⟨hstep,g',H',hfin,hg',hH'⟩:=h.flat (f:=f) D hm (Nat.zero_le _) rfl rfl (by funext r t;simp [frAt,q3j]) (fun _ _ _ _=>trivial);have hback:(ops.toList.zipIdx.all fun p=>p.1.after.all fun e=>!Region.binds .any e || decide (e.on < p.2))=true:=by
   refine List.all_eq_true.2 fun p hp=>Array.all_eq_true_iff_forall_mem.2 fun e he=>?_;cases hb:Region.binds .any e
   · rfl
   · have:=D.back p.2 p.1 (by rw [List.mem_zipIdx_iff_getElem?] at hp;simpa using hp) e.on (mem_deps he hb);simp [this]
 -- when the first part is done,the rest is one list
 have hdone:∀ (r:Rho) (w':World) (L':Nat→Bool),AL L' w'→(∀ i,i < m→L' i=true)→(∀ j,j < m→z0q E j r w')→L P n ops Q (ops.toList.drop m) (frL ops E m L' f r) w':=by
   intro r w' L' hA' hL hf;have hfr:frL ops E m L' f r=g' r:=by
     rw [hg'];funext t;simp only [frL,frAt];cases hw:q3j (ops.toList.take m) t with
     | none=>rfl
     | some j =>
       obtain ⟨q,hq,_⟩:=q3g hw;have hj:j < m:=by
         rw [List.getElem?_take] at hq;split at hq
         · assumption
         · cases hq
       simp [hL j hj]
   rw [hfr];exact hfin r w' (hAF L' w' hL hA') (fun j=>hH' r j w' (fun hj=>hf j hj))
 let JA:(Nat→Bool)→Fr→World→Prop:=fun L' f' w'=>AL L' w'∧(∃ i,i < m∧L' i=false)∧(∀ i,m≤i→i < ops.size→L' i=false)∧q9a ops L'∧∃ r,f'=frL ops E m L' f r∧∀ k,k < m→L' k=true→z0q E k r w';let JB:(Nat→Bool)→Fr→World→Prop:=fun L' f' w'=>∃ q,(∀ i,i < m+q→L' i=true)∧(∀ i,m+q≤i→i < ops.size→L' i=false)∧L P n ops Q (ops.toList.drop (m+q)) f' w';refine W_drawZ (J:=fun L' f' w'=>JA L' f' w'∨JB L' f' w') hback ?_ ?_ ?_
 · by_cases h0:m=0
   · subst h0;refine .inr ⟨0,fun i hi=>by omega,fun i _ hi=>by simp;omega,?_⟩;have:=hdone (fun _=>undef) w.drew (fun _=>false) (hA0 _ (fun i hi=>by omega)) (fun i hi=>by omega) (fun j hj=>by omega);have hfr:frL ops E 0 (fun _=>false) f (fun _=>undef)=f:=(by funext t;simp [frL,q3j]);rw [hfr] at this;simpa using this
   · have hle:=D.le;refine .inl ⟨hA0 _ (fun i hi=>decide_eq_false (by omega)),⟨0,by omega,decide_eq_false (by omega)⟩,fun i _ hi=>by simp;omega,fun i o ho hL=>?_,fun _=>undef,?_,fun k hk hL=>?_⟩
     · have:=(Array.getElem?_eq_some_iff.1 ho).1;simp at hL;omega
     · funext t;simp only [frL];cases hw:q3j (ops.toList.take m) t with
       | none=>rfl
       | some j =>
         obtain ⟨q,hq,_⟩:=q3g hw;have hj:j < m:=by
           rw [List.getElem?_take] at hq;split at hq
           · assumption
           · cases hq
         simp [show ¬ ops.size≤j by omega]
     · simp at hL;omega
 · rintro i o ho L' f' w' hLi hdeps hJ;have hdeps':∀ j∈deps o,L' j=true:=fun j hj=>by
     obtain ⟨e,he,hb,rfl⟩:=of_mem_deps hj;exact hdeps e he hb
   rcases hJ with ⟨hA',⟨i0,hi0,hL0⟩,htl,hc,r,rfl,hf⟩ | ⟨q,h1,h2,hL⟩
   · -- the part that draws
     have him:i < m:=by
       rcases Nat.lt_or_ge i m with h | h
       · exact h
       · have:=q9a.td D hc i i0 o ho hdeps' (D.tail i o ho h i0 (by omega));rw [hL0] at this;cases this
     have hE:∃ e,E[i]?=some e:=⟨E[i]'(by omega),List.getElem?_eq_getElem (by omega)⟩;obtain ⟨e,he⟩:=hE;obtain ⟨hns,hro⟩:=D.reads i o ho him;unfold readsOk at hro;rw [Bool.and_eq_true] at hro;obtain ⟨hr1,hr2⟩:=hro;have wlt:∀ {t j:Nat},q3j (ops.toList.take m) t=some j→j < m∧∃ q,ops[j]?=some q∧q.dst=some t:=by
       intro t j hw;obtain ⟨q,hq,hqd⟩:=q3g hw;rw [List.getElem?_take] at hq;split at hq
       · exact ⟨by assumption,q,by simpa using hq,hqd⟩
       · cases hq
     -- a slot that was written by something done,or not written at all,reads a_ in the walk
     have agree:∀ t,(match q3j (ops.toList.take m) t with | none=>true | some j=>if j < i then L' j else if j=i then true else !(L' j))=true→frL ops E m L' f r t=frAt ops E i f r t:=by
       intro t ht;simp only [frL,frAt];rw [writer_take D.dst (Nat.le_of_lt him)];cases hw:q3j (ops.toList.take m) t with
       | none=>rfl
       | some j =>
         rw [hw] at ht;simp only at ht ⊢;by_cases hj:j < i
         · simp only [hj,if_true] at ht ⊢;rw [ht];rfl
         · simp only [hj,if_false] at ht ⊢;by_cases hji:j=i
           · subst hji;rw [hLi];rfl
           · simp only [hji,if_false] at ht;have:L' j=false:=(by simpa using ht);rw [this];rfl
     have hops:∀ t∈opTmps o,frL ops E m L' f r t=frAt ops E i f r t:=by
       intro t ht;refine agree t ?_;have:=List.all_eq_true.1 hr1 t ht;cases hw:q3j (ops.toList.take m) t with
       | none=>rfl
       | some j =>
         rw [hw] at this;simp only at this ⊢;by_cases hj:j < i
         · simp only [hj,if_true] at this ⊢;exact hdeps' j (by simpa using this)
         · simp only [hj,if_false] at this ⊢;by_cases hji:j=i
           · simp [hji]
           · simp only [hji,if_false] at this ⊢;obtain ⟨hjm,q,hq,_⟩:=wlt hw;have hget:(ops.toList.take m).getD j default=q:=by
               rw [List.getD_eq_getElem?_getD,List.getElem?_take];simp [hjm];have:ops.toList[j]?=some q:=(by simpa using hq);simp at this;simp [this]
             rw [hget] at this;cases hLj:L' j
             · rfl
             · have:=hc j q hq hLj i (by simpa using this);rw [hLi] at this;cases this
     have hwants:q4a n ops (frL ops E m L' f r) o=q4a n ops (frAt ops E i f r) o:=by
       unfold q4a Region.wanted;cases hgd:o.guard with
       | none=>rfl
       | some p =>
         obtain ⟨j,want⟩:=p;simp only;have:yielded ops (arr n (frL ops E m L' f r)) j=yielded ops (arr n (frAt ops E i f r)) j:=by
           unfold yielded;cases hoj:ops[j]? with
           | none=>rfl
           | some q =>
             cases hqd:q.dst with
             | none=>simp [hqd]
             | some t =>
               have h3:=List.all_eq_true.1 hr2 j (by simp [guardOf,hgd]);simp only [Bool.and_eq_true,decide_eq_true_eq] at h3
               have hag:=agree t (by
                 rw [q7w D.dst hoj (by omega) hqd]
                 simp only [h3.2,if_true]
                 exact hdeps' j (by simpa using h3.1))
               simp [hqd,arr_get?,hag]
         rw [this]
     have hfacts:∀ j,td ops i j=true→z0q E j r w':=fun j hj=>by
       have hlt:=td_lt D i j o ho hj;exact hf j (by omega) (q9a.td D hc i j o ho hdeps' hj)
     have hS:=hstep i (Nat.zero_le _) him o e ho he
     -- what was done before keeps its value
     have hLset:∀ j,(if j=i then true else L' j)=true→j=i∨L' j=true:=fun j h=>by
       by_cases hji:j=i
       · exact .inl hji
       · simp only [hji,if_false] at h;exact .inr h
     have hclosed:q9a ops (fun j=>if j=i then true else L' j):=fun j q hq hL j' hj'=>by
       have:L' j'=true:=by
         rcases hLset j hL with rfl | hL
         · rw [ho] at hq;injection hq with hq;subst hq;exact hdeps' j' hj'
         · exact hc j q hq hL j' hj'
       simp [this]
     have hgetv:E.getD i (.op fun _ _=>True)=e:=(by rw [List.getD_eq_getElem?_getD,he];rfl)
     -- the frame behind the step
     have hfr:∀ (r':Rho) (v:Value),(o.dst.isSome=true→e.val i r'=v)→(∀ j,L' j=true→j < m→(E.getD j (.op fun _ _=>True)).val j r'=(E.getD j (.op fun _ _=>True)).val j r) →
         updo (frL ops E m L' f r) o.dst v=frL ops E m (fun j=>if j=i then true else L' j) f r':=by
       intro r' v hv hold;funext t;have hrest:o.dst ≠ some t→frL ops E m L' f r t=frL ops E m (fun j=>if j=i then true else L' j) f r' t:=by
         intro hne;simp only [frL];cases hw:q3j (ops.toList.take m) t with
         | none=>rfl
         | some j =>
           obtain ⟨hjm,q,hq,hqd⟩:=wlt hw;have hji:j ≠ i:=fun e=>(by subst e;rw [ho] at hq;injection hq with hq;subst hq;exact hne hqd);simp only [hji,if_false];cases hLj:L' j
           · rfl
           · exact (hold j hLj hjm).symm
       cases hod:o.dst with
       | none=>exact hrest (by rw [hod];simp)
       | some d =>
         by_cases htd:t=d
         · subst htd;rw [show updo (frL ops E m L' f r) (some t) v t=v from z1m _ _ _];simp only [frL];rw [q7w D.dst ho him hod];simp only [if_true,cond_true];rw [hgetv];exact (hv (by rw [hod];rfl)).symm
         · rw [show updo (frL ops E m L' f r) (some d) v t=frL ops E m L' f r t from z1w _ _ htd];exact hrest (by rw [hod];intro e;injection e with e;exact htd e.symm)
     -- the new state,in either case
     have hnew:∀ (r':Rho) (v:Value) (w'':World),AL (Done1 i L') w''→(o.dst.isSome=true→e.val i r'=v)→(∀ j,L' j=true→j < m→(E.getD j (.op fun _ _=>True)).val j r'=(E.getD j (.op fun _ _=>True)).val j r) →
         (∀ k,k < m→(if k=i then true else L' k)=true→z0q E k r' w'') →
         JA (Done1 i L') (updo (frL ops E m L' f r) o.dst v) w''∨JB (Done1 i L') (updo (frL ops E m L' f r) o.dst v) w'':=by
       intro r' v w'' hA'' hv hold hf';rw [hfr r' v hv hold];by_cases hall:∀ j,j < m→(if j=i then true else L' j)=true
       · refine .inr ⟨0,fun j hj=>hall j (by omega),fun j hj hlt=>?_,?_⟩
         · have hji:j ≠ i:=(by omega);simp only [Done1,hji,if_false];exact htl j (by omega) hlt
         · exact hdone r' w'' _ hA'' hall (fun j hj=>hf' j hj (hall j hj))
       · refine .inl ⟨hA'',?_,fun j hj hlt=>?_,hclosed,r',rfl,hf'⟩
         · apply Classical.byContradiction;intro hne;apply hall;intro j hj;cases hb:(if j=i then true else L' j)
           · exact absurd ⟨j,hj,hb⟩ hne
           · rfl
         · have hji:j ≠ i:=(by omega);simp only [Done1,hji,if_false];exact htl j hj hlt
     rw [hwants]
     have hnt:∀ k,k < m→L' k=true→i ≠ k∧td ops k i=false:=fun k hkm hLk=>⟨(fun e=>by subst e;rw [hLi] at hLk;cases hLk),(by
       cases ht:td ops k i
       · rfl
       · have hoj:=Array.getElem?_eq_getElem (show k < ops.size by have:=D.le;omega)
         have:=q9a.td D hc k i _ hoj (hc k _ hoj hLk) ht
         rw [hLi] at this;cases this)⟩
     have hin:∀ j,td ops i j=true→L' j=true:=fun j hj=>q9a.td D hc i j o ho hdeps' hj;have hout:∀ j,td ops j i=true→L' j=false:=fun j hj=>by
       cases hLj:L' j
       · rfl
       · cases hoj:ops[j]? with
         | none=>unfold td at hj;rw [List.getD_eq_getElem?_getD,List.getElem?_eq_none (by rw [z0z];have:=Array.getElem?_eq_none_iff.1 hoj;simpa using this)] at hj;simp at hj
         | some q =>
           have:=q9a.td D hc j i q hoj (hc j q hoj hLj) hj;rw [hLi] at this;cases this
     have hAi:=hAk L' i w' him hLi hin hout hA';cases e with
     | st V =>
       obtain ⟨s1,s2⟩:=(show _∧_ from hS r w' hAi hfacts);have hfk:∀ w'',R i w' w''→∀ k,k < m→(if k=i then true else L' k)=true→z0q E k r w'':=by
         intro w'' hE k hk hL;rcases hLset k hL with rfl | hL
         · unfold z0q;rw [List.getD_eq_getElem?_getD,he];trivial
         · have h0:=hf k hk hL;unfold z0q at h0 ⊢;cases hek:E[k]? with
           | none=>rw [List.getD_eq_getElem?_getD,hek];trivial
           | some ek =>
             rw [List.getD_eq_getElem?_getD,hek] at h0 ⊢;cases ek with
             | st V'=>trivial
             | op F =>
               have hok':=hstep k (Nat.zero_le _) hk (ops[k]'(by have:=D.le;omega)) _ (Array.getElem?_eq_getElem (by have:=D.le;omega)) hek;exact hok'.2 i r _ _ (hnt k hk hL).1 (hnt k hk hL).2 hE h0
       refine ⟨fun hw=>((Run_agree hns hops (s1 hw)).mono ?_).z,fun hw=>?_⟩
       · rintro v w'' ⟨rfl,hE⟩;exact hnew r _ w'' (hA _ _ _ _ him hLi hin hout hE hA') (fun _=>rfl) (fun _ _ _=>rfl) (hfk w'' hE)
       · exact hnew r undef w' (hA _ _ _ _ him hLi hin hout (hR0 _ _) hA') (fun _=>s2 hw) (fun _ _ _=>rfl) (hfk w' (hR0 _ _))
     | op F =>
       obtain ⟨s0,hF⟩:=hS;obtain ⟨s1,s2⟩:=s0 r w' hAi hfacts;refine ⟨fun _=>((Run_agree hns hops s2).mono ?_).z,fun hw=>by rw [s1] at hw;cases hw⟩;rintro v w'' ⟨hE,hFv⟩;have hIL:=hins.at he;simp only [Nat.zero_add] at hIL;have hinsens:∀ j ej,L' j=true→j < m→E[j]?=some ej→Insens i ej:=by
         intro j ej hLj hjm hej;have hji:i ≠ j:=fun e=>(by subst e;rw [hLi] at hLj;cases hLj);have:=hIL.at hej;simp only [Nat.zero_add] at this;rcases this with htd | he | h
         · have hoj:=Array.getElem?_eq_getElem (show j < ops.size by have:=D.le;omega);have:=q9a.td D hc j i (ops[j]'(by have:=D.le;omega)) hoj (hc j _ hoj hLj) htd;rw [hLi] at this;cases this
         · exact absurd he hji
         · exact h
       refine hnew (rset r i v) v w'' (hA _ _ _ _ him hLi hin hout hE hA') (fun _=>q6b r i v) (fun j hLj hjm=>?_) (fun k hk hL=>?_)
       · have hej:E[j]?=some (E[j]'(by omega)):=List.getElem?_eq_getElem (by omega);rw [List.getD_eq_getElem?_getD,hej];have hI:=hinsens j _ hLj hjm hej;simp only [Option.getD_some];cases hx:(E[j]'(by omega)) with
         | st V=>rw [hx] at hI;exact hI r v
         | op F' =>
           have hji:j ≠ i:=fun e=>(by subst e;rw [hLi] at hLj;cases hLj);exact z0h r v hji
       · rcases hLset k hL with rfl | hL
         · unfold z0q;rw [List.getD_eq_getElem?_getD,he];exact hFv
         · have h0:=hf k hk hL;unfold z0q at h0 ⊢;have hek:E[k]?=some (E[k]'(by omega)):=List.getElem?_eq_getElem (by omega);have hI:=hinsens k _ hL hk hek;rw [List.getD_eq_getElem?_getD,hek] at h0 ⊢;simp only [Option.getD_some] at h0 ⊢;cases hx:(E[k]'(by omega)) with
           | st V'=>trivial
           | op F' =>
             rw [hx] at hI h0;have hok':=hstep k (Nat.zero_le _) hk (ops[k]'(by have:=D.le;omega)) _ (Array.getElem?_eq_getElem (by have:=D.le;omega)) (hek.trans (by rw [hx]));show F' (rset r i v) w'';rw [hI r v];exact hok'.2 i r _ _ (hnt k hk hL).1 (hnt k hk hL).2 hE h0
   · -- the forced part
     have hlt:=(Array.getElem?_eq_some_iff.1 ho).1;have hge:m+q≤i:=by
       rcases Nat.lt_or_ge i (m+q) with h | h
       · have:=h1 i h;rw [hLi] at this;cases this
       · exact h
     have hc:∀ j o',ops[j]?=some o'→(∀ j'∈deps o',j' < m+q)→∀ j',td ops j j'=true→j' < m+q:=by
       intro j o' ho' hd j' htd;obtain ⟨e,he,h'⟩:=td_dep D ho' htd;rcases h' with rfl | h'
       · exact hd _ he
       · have hlt':e < ops.size:=(by have:=hd e he;have:=D.back j o' ho' e he;have:=(Array.getElem?_eq_some_iff.1 ho').1;omega);have:=td_lt D e j' ops[e] (Array.getElem?_eq_getElem hlt') h';have:=hd e he;omega
     have hieq:i=m+q:=by
       rcases Nat.lt_or_ge (m+q) i with h | h
       · have h3:=hc i o ho (fun j' hj'=>by
           rcases Nat.lt_or_ge j' (m+q) with h4 | h4
           · exact h4
           · have:=h2 j' h4 (by have:=D.back i o ho j' hj';omega)
             rw [hdeps' j' hj'] at this;cases this) (m+q) (D.tail i o ho (by omega) (m+q) h)
         omega
       · omega
     subst hieq;have hdrop:ops.toList.drop (m+q)=o :: ops.toList.drop (m+q+1):=by
       have:ops.toList[m+q]?=some o:=(by simpa using ho);rw [List.drop_eq_getElem_cons (by simpa using hlt)];congr 1;have:=List.getElem?_eq_some_iff.1 this;exact this.2
     rw [hdrop] at hL;have hnext:∀ f'' w'',L P n ops Q (ops.toList.drop (m+q+1)) f'' w''→JB (fun j=>if j=m+q then true else L' j) f'' w'':=by
       intro f'' w'' h;refine ⟨q+1,fun j hj=>?_,fun j hj hlt=>?_,h⟩
       · by_cases hjq:j=m+q
         · simp [hjq]
         · simp only [hjq,if_false];exact h1 j (by omega)
       · have hjq:j ≠ m+q:=(by omega);simp only [hjq,if_false];exact h2 j (by omega) hlt
     exact ⟨fun hw=>RunR.mono (hL.1 hw) (fun _ _ h=>h) fun v w'' h=>.inr (hnext _ _ h),fun hw=>.inr (hnext _ _ (hL.2 hw))⟩
 · rintro L' f' w' hall (⟨_,⟨i,hi,hLi⟩,_⟩ | ⟨q,_,h2,hL⟩)
   · have:=hall i (by have:=D.le;omega);rw [hLi] at this;cases this
   · have hq:ops.size≤m+q:=by
       rcases Nat.lt_or_ge (m+q) ops.size with h | h
       · have:=h2 (m+q) (Nat.le_refl _) h;rw [hall (m+q) h] at this;cases this
       · exact h
     rw [List.drop_eq_nil_of_le (by simpa using hq)] at hL;exact hL
theorem W_dag {R:Nat→World→World→Prop} {id:Nat} [hmx:TMixed P] {E:List Ent} (m:Nat) (A:World→Prop) (hm:E.length=m) (hok:dagOk ops m=true) (hins:q7t ops E E 0)
   (hR0:∀ i w,R i w w) (hA0:A w.drew) (hA:∀ i w w',R i w w'→A w→A w')
   (h:DW R P n ops (fun _=>A) (fun tail g H=>∀ r w',A w'→(∀ j,H r j w')→L P n ops Q tail (g r) w') ops.toList 0 E (fun _=>f) (fun _ _ _=>True)) :
   W P n (.region id ops true) Q f w :=
 W_dagL m (fun _=>A) (fun _=>A) A hm hok hins hR0 (fun _ _=>hA0) (fun _ _ _ _ _ _ _ h=>h) (fun _ _ _ _ _ _ _ _ hr h=>hA _ _ _ hr h) (fun _ _ _ h=>h) h
end Go.Proofs.K
namespace Go.Proofs.K
open Go.RowKit
class ExtR (R:Nat→World→World→Prop):Prop where h:∀ i w w',Ext w w'→R i w w'
abbrev ExtN:Nat→World→World→Prop:=fun _=>Ext
instance:ExtR ExtN:=⟨fun _ _ _ h=>h⟩
variable {R:Nat→World→World→Prop} {P:Program} {n:NN} {Q:Exit→Fr→World→Prop} {f:Fr} {w:World} {ops:Array Oper} {A:Nat→World→Prop} {Fin:List Oper→(Rho→Fr)→(Rho→Nat→World→Prop)→Prop} {rest:List Oper} {k:Nat} {E:List Ent} {g:Rho→Fr} {H:Rho→Nat→World→Prop}
theorem DW.imp {Fin':List Oper→(Rho→Fr)→(Rho→Nat→World→Prop)→Prop} {l:List Oper} (h:DW R P n ops A Fin l k E g H) (hF:∀ t g H,Fin t g H→Fin' t g H):DW R P n ops A Fin' l k E g H:=by
 induction h with
 | fin h=>exact .fin (hF _ _ _ h)
 | st h _ ih=>exact .st h ih
 | op h h2 _ ih=>exact .op h h2 ih
theorem W_dag2 {id:Nat} [TMixed P] {l:List Oper} (m:Nat) (A:World→Prop) (hok:dagOk l.toArray m=true) (hA0:A w.drew) (hA:∀ w w',Ext w w'→A w→A w')
   {E:List Ent} {T:List Oper} {G:Rho→Fr} {HF:Rho→Nat→World→Prop}
   (hw:DW ExtN P n l.toArray (fun _=>A) (fun t g' H'=>t=T∧g'=G∧H'=HF) l 0 E (fun _=>f) (fun _ _ _=>True)) (hm:E.length=m) (hins:q7t l.toArray E E 0)
   (hfin:∀ r w',A w'→(∀ j,HF r j w')→L P n l.toArray Q T (G r) w'):W P n (.region id l.toArray true) Q f w :=
 W_dag m A hm hok hins (fun _=>Ext.refl) hA0 (fun _=>hA) (hw.imp fun t g' H' ⟨e1,e2,e3⟩=>by subst e1;subst e2;subst e3;exact hfin)
theorem q1r {id:Nat} [TMixed P] {l:List Oper} (m:Nat) (hok:dagOk l.toArray m=true)
   {E:List Ent} {T:List Oper} {G:Rho→Fr} {HF:Rho→Nat→World→Prop}
   (hw:DW ExtN P n l.toArray (fun _ w'=>Ext w w') (fun t g' H'=>t=T∧g'=G∧H'=HF) l 0 E (fun _=>f) (fun _ _ _=>True)) (hm:E.length=m) (hins:q7t l.toArray E E 0)
   (hfin:∀ r w',Ext w w'→(∀ j,HF r j w')→L P n l.toArray Q T (G r) w'):W P n (.region id l.toArray true) Q f w :=
 W_dag2 m _ hok (Ext.drew w) (fun _ _ E h=>h.trans E) hw hm hins hfin
theorem z0b {id:Nat} [TMixed P] {l:List Oper} {R:Nat→World→World→Prop} (A:World→Prop) (m:Nat) (hok:dagOk l.toArray m=true) (hR0:∀ i w,R i w w) (hA0:A w.drew) (hA:∀ i w w',R i w w'→A w→A w')
   {E:List Ent} {T:List Oper} {G:Rho→Fr} {HF:Rho→Nat→World→Prop}
   (hw:DW R P n l.toArray (fun _=>A) (fun t g' H'=>t=T∧g'=G∧H'=HF) l 0 E (fun _=>f) (fun _ _ _=>True)) (hm:E.length=m) (hins:q7t l.toArray E E 0)
   (hfin:∀ r w',A w'→(∀ j,HF r j w')→L P n l.toArray Q T (G r) w'):W P n (.region id l.toArray true) Q f w :=
 W_dag m A hm hok hins hR0 hA0 hA (hw.imp fun t g' H' ⟨e1,e2,e3⟩=>by subst e1;subst e2;subst e3;exact hfin)
theorem q2c:DW R P n ops A (fun t g' H'=>t=rest∧g'=g∧H'=H) rest k [] g H:=.fin ⟨rfl,rfl,rfl⟩
section
variable {d:Tmp} {op:Op} {t:TypeId} {pos:String} {af:Array Edge}
theorem DW_x [ExtR R] {V:Rho→Value} (hX:∀ r w,A k w→(∀ j,td ops k j=true→H r j w)→X P n ⟨some d,op,t,pos,af,none⟩ (g r) w=.ok (.value (V r)) w)
   (hr:DW R P n ops A Fin rest (k+1) E (fun r=>upd (g r) d (V r)) H):DW R P n ops A Fin (⟨some d,op,t,pos,af,none⟩ :: rest) k (.st V :: E) g H :=
 .st (fun r w hA hH=>⟨fun _=>q9e (hX r w hA hH) ⟨rfl,ExtR.h _ _ _ (Ext.refl w)⟩,fun hw=>by rw [q5t Y] at hw;cases hw⟩) hr
theorem DW_on [ExtR R] {V:Rho→Value} {gd:Nat × Bool} (hg:∀ r,q4a n ops (g r) ⟨some d,op,t,pos,af,some gd⟩=true) (hX:∀ r w,A k w→(∀ j,td ops k j=true→H r j w)→X P n ⟨some d,op,t,pos,af,none⟩ (g r) w=.ok (.value (V r)) w)
   (hr:DW R P n ops A Fin rest (k+1) E (fun r=>upd (g r) d (V r)) H):DW R P n ops A Fin (⟨some d,op,t,pos,af,some gd⟩ :: rest) k (.st V :: E) g H :=
 .st (fun r w hA hH=>⟨fun _=>q9e (o:=⟨some d,op,t,pos,af,some gd⟩) (hX r w hA hH) ⟨rfl,ExtR.h _ _ _ (Ext.refl w)⟩,fun hw=>by rw [hg r] at hw;cases hw⟩) hr
theorem DW_off [ExtR R] {o:Option Tmp} {gd:Nat × Bool} (hg:∀ r,q4a n ops (g r) ⟨o,op,t,pos,af,some gd⟩=false)
   (hr:DW R P n ops A Fin rest (k+1) E (fun r=>updo (g r) o undef) H):DW R P n ops A Fin (⟨o,op,t,pos,af,some gd⟩ :: rest) k (.st (fun _=>undef) :: E) g H :=
 .st (fun r w hA hH=>⟨fun hw=>(by rw [hg r] at hw;cases hw),fun _=>rfl⟩) hr
theorem q6l [ExtR R] {V:Rho→Value} {id:FuncId} [TFun P id] {l:List Operand} {vl:Rho→List Value} {tys:Array TypeId} {gd:Option (Nat × Bool)} (hg:∀ r,q4a n ops (g r) ⟨some d,.call ⟨.value (.func id),l.toArray,tys⟩,t,pos,af,gd⟩=true)
   (ha:∀ r,l.map (ev n (g r))=vl r) (hc:∀ r w,A k w→(∀ j,td ops k j=true→H r j w)→Calls P id (vl r).toArray w fun e w'=>e=.returned (V r)∧Ext w w')
   (hr:DW R P n ops A Fin rest (k+1) E (fun r=>upd (g r) d (V r)) H):DW R P n ops A Fin (⟨some d,.call ⟨.value (.func id),l.toArray,tys⟩,t,pos,af,gd⟩ :: rest) k (.st V :: E) g H :=
 .st (fun r w hA hH=>⟨fun _=>q8v (X_fn (ha r)) (hc r w hA hH) fun e w' ⟨he,hE⟩=>⟨_,he,rfl,ExtR.h _ _ _ hE⟩,fun hw=>by rw [hg r] at hw;cases hw⟩) hr
theorem DW_fo [ExtR R] {F:Value→World→Prop} {id:FuncId} [TFun P id] {l:List Operand} {vl:Rho→List Value} {tys:Array TypeId} {gd:Option (Nat × Bool)} (hg:∀ r,q4a n ops (g r) ⟨some d,.call ⟨.value (.func id),l.toArray,tys⟩,t,pos,af,gd⟩=true)
   (ha:∀ r,l.map (ev n (g r))=vl r) (hc:∀ r w,A k w→(∀ j,td ops k j=true→H r j w)→Calls P id (vl r).toArray w fun e w'=>∃ v,e=.returned v∧Ext w w'∧F v w') (hF:∀ i v w w',i ≠ k→td ops k i=false→R i w w'→F v w→F v w')
   (hr:DW R P n ops A Fin rest (k+1) E (fun r=>upd (g r) d (r k)) (fun r j w=>bif Nat.beq j k then F (r k) w else H r j w)):DW R P n ops A Fin (⟨some d,.call ⟨.value (.func id),l.toArray,tys⟩,t,pos,af,gd⟩ :: rest) k (.op (fun r w=>F (r k) w) :: E) g H :=
 .op (fun r w hA hH=>⟨hg r,q8v (X_fn (ha r)) (hc r w hA hH) fun e w' ⟨v,he,hE,hv⟩=>⟨v,he,ExtR.h _ _ _ hE,by rw [q6b];exact hv⟩⟩) (fun i r w w' h1 h2 hE h=>hF i _ _ _ h1 h2 hE h) hr
end
section
variable {d:Option Tmp} {t ty ty':TypeId} {pos:String} {af:Array Edge} {gd:Option (Nat × Bool)} {x y z:Operand} {kk:Nat} {c:Bool} {tys:Array TypeId}
theorem q9r (h:DW R P n ops A Fin (⟨d,.move x,t,pos,af,gd⟩ :: rest) k E g H):DW R P n ops A Fin (⟨d,.move x,t,pos,af,gd⟩ :: rest) k E g H:=h
theorem q9q (h:DW R P n ops A Fin (⟨d,.pick x y z,t,pos,af,gd⟩ :: rest) k E g H):DW R P n ops A Fin (⟨d,.pick x y z,t,pos,af,gd⟩ :: rest) k E g H:=h
theorem d_neq (h:DW R P n ops A Fin (⟨d,.binOp .neq ty x y ty',t,pos,af,gd⟩ :: rest) k E g H):DW R P n ops A Fin (⟨d,.binOp .neq ty x y ty',t,pos,af,gd⟩ :: rest) k E g H:=h
theorem d_lss (h:DW R P n ops A Fin (⟨d,.binOp .lss ty x y ty',t,pos,af,gd⟩ :: rest) k E g H):DW R P n ops A Fin (⟨d,.binOp .lss ty x y ty',t,pos,af,gd⟩ :: rest) k E g H:=h
theorem d_gtr (h:DW R P n ops A Fin (⟨d,.binOp .gtr ty x y ty',t,pos,af,gd⟩ :: rest) k E g H):DW R P n ops A Fin (⟨d,.binOp .gtr ty x y ty',t,pos,af,gd⟩ :: rest) k E g H:=h
theorem d_unot (h:DW R P n ops A Fin (⟨d,.unOp .not ty x,t,pos,af,gd⟩ :: rest) k E g H):DW R P n ops A Fin (⟨d,.unOp .not ty x,t,pos,af,gd⟩ :: rest) k E g H:=h
theorem z5f (h:DW R P n ops A Fin (⟨d,.fieldAddr ty x kk,t,pos,af,gd⟩ :: rest) k E g H):DW R P n ops A Fin (⟨d,.fieldAddr ty x kk,t,pos,af,gd⟩ :: rest) k E g H:=h
theorem q9s (h:DW R P n ops A Fin (⟨d,.load ty x,t,pos,af,gd⟩ :: rest) k E g H):DW R P n ops A Fin (⟨d,.load ty x,t,pos,af,gd⟩ :: rest) k E g H:=h
theorem z5e (h:DW R P n ops A Fin (⟨d,.indexAddr ty x y,t,pos,af,gd⟩ :: rest) k E g H):DW R P n ops A Fin (⟨d,.indexAddr ty x y,t,pos,af,gd⟩ :: rest) k E g H:=h
end
end Go.Proofs.K
namespace Go.Proofs.K
open Go.RowKit
variable {P:Program} {n:NN} {Q:Exit→Fr→World→Prop} {f:Fr} {w:World} {ops:Array Oper} {rest:List Oper}
def ints (k:IntKind) (l:List Nat):List Value:=l.map fun a=>.int k (a:Nat)
theorem q0v (k:IntKind) (l:List Nat):(ints k l).length=l.length:=by simp [ints]
theorem q4p (k:IntKind) (a b:List Nat):ints k (a++b)=ints k a++ints k b:=by simp [ints]
theorem q8o {k:IntKind} {l:List Nat} {i:Nat} (h:i < l.length):(ints k l)[i]?=some (.int k ((l.getD i 0:Nat):Int)):=by
 simp [ints,List.getD_eq_getElem?_getD,h]
theorem q1v {k:IntKind} {l:List Nat}:∀ q∈ints k l,q.oneCell'=true:=by
 intro q hq;obtain ⟨b,_,rfl⟩:=List.mem_map.1 hq;rfl
theorem q4w (k:IntKind) (l:List Nat) (i a:Nat):(ints k l).set i (.int k (a:Nat))=ints k (l.set i a):=by simp [ints,List.map_set]
theorem q9n (k:IntKind) (l:List Nat) (i:Nat):(ints k l).take i=ints k (l.take i):=by simp [ints,List.map_take]
theorem z2m (k:IntKind) (l:List Nat) (i:Nat):(ints k l).drop i=ints k (l.drop i):=by simp [ints,List.map_drop]
theorem q6n (k:IntKind) (m a:Nat):(List.replicate m [Value.int k (a:Nat)]).flatten=ints k (List.replicate m a):=by
 induction m with
 | zero=>rfl
 | succ m ih=>simp only [List.replicate_succ,List.flatten_cons,ih];rfl
section X
variable {d:Option Tmp} {t ty:TypeId} {pos:String} {af:Array Edge} {g:Option (Nat × Bool)} {x:Operand} {k:IntKind}
theorem X_ld [TOne P ty] {b o:Nat} {T:TypeId} {cs:List Value} {v:Value} (hx:ev n f x=.pointer (some ⟨b,o,none⟩)) (hB:Blk w b T cs) (hv:cs[o]?=some v):X P n ⟨d,.load ty x,t,pos,af,g⟩ f w=.ok (.value v) w :=
 z0u hx (by rw [hB.cell];exact hv)
theorem q6q [TOne P ty] {b o:Nat} {T:TypeId} {l:List Nat} (hx:ev n f x=.pointer (some ⟨b,o,none⟩)) (hB:Blk w b T (ints k l)) (hv:o < l.length):X P n ⟨d,.load ty x,t,pos,af,g⟩ f w=.ok (.value (.int k ((l.getD o 0:Nat):Int))) w :=
 X_ld hx hB (q8o hv)
theorem q1p [TOne P ty] {b o o':Nat} {cs:List Value} {v:Value} {j:Nat} (hx:ev n f x=.pointer (some ⟨b,o',none⟩)) (hr:w.rangeAt b o cs) (ho:o'=o+j) (hv:cs[j]?=some v):X P n ⟨d,.load ty x,t,pos,af,g⟩ f w=.ok (.value v) w :=
 z0u hx (by subst ho;exact hr j v hv)
theorem X_ldRI [TOne P ty] {b o j:Nat} {l:List Nat} (hx:ev n f x=.pointer (some ⟨b,o+j * 1,none⟩)) (hr:w.rangeAt b o (ints k l)) (hv:j < l.length):X P n ⟨d,.load ty x,t,pos,af,g⟩ f w=.ok (.value (.int k ((l.getD j 0:Nat):Int))) w :=
 q1p hx hr (by omega) (q8o hv)
theorem q5b {size:Nat} [hs:TAgg P ty size] {b o:Nat} {T:TypeId} {cs l:List Value} (hx:ev n f x=.pointer (some ⟨b,o,none⟩)) (hB:Blk w b T cs) (hv:(cs.drop o).take size=l) (hl:l.length=size):X P n ⟨d,.load ty x,t,pos,af,g⟩ f w=.ok (.value (.agg l.toArray)) w:=by
 refine q2x hx (fun j u hu=>?_) hl;rw [hB.cell];subst hv;rw [List.getElem?_take] at hu;split at hu
 · simpa using hu
 · cases hu
theorem q2i {size:Nat} [hs:TAgg P ty size] {b:Nat} {T:TypeId} {cs:List Value} (hx:ev n f x=.pointer (some ⟨b,0,none⟩)) (hB:Blk w b T cs) (hl:cs.length=size):X P n ⟨d,.load ty x,t,pos,af,g⟩ f w=.ok (.value (.agg cs.toArray)) w :=
 q5b hx hB (by simp [← hl]) hl
end X
section N
variable {d:Option Tmp} {t ty ty':TypeId} {pos:String} {af:Array Edge} {g:Option (Nat × Bool)} {x y:Operand} {k:IntKind} {a b:Nat}
theorem X_quoi {a b:Int} (hx:ev n f x=.int .i64 a) (hy:ev n f y=.int .i64 b) (h:0 < b∧0≤a∧a≤9223372036854775807):X P n ⟨d,.binOp .quo ty x y ty',t,pos,af,g⟩ f w=.ok (.value (.int .i64 (a / b))) w:=by
 have hl:a / b≤a:=Int.ediv_le_self _ h.2.1;have h0:0≤a / b:=Int.ediv_nonneg h.2.1 (by omega);rw [X_quo hx hy (by omega),Int.tdiv_eq_ediv_of_nonneg h.2.1];generalize a / b=q at *;rw [IntWalk.i64_in _ (by omega)]
theorem X_remi {a b:Int} (hx:ev n f x=.int k a) (hy:ev n f y=.int k b) (h:0 < b∧0≤a):X P n ⟨d,.binOp .rem ty x y ty',t,pos,af,g⟩ f w=.ok (.value (.int k (a % b))) w:=by
 rw [X_rem hx hy (by omega),Int.tmod_eq_emod_of_nonneg h.2]
end N
section M
variable {d:Tmp} {t ty:TypeId} {pos:String} {af:Array Edge} {x y:Operand}
theorem q0w {z:List Value} [hz:TZero P ty z] (h:∀ g w',Blk w' g ty z→w.heap.size=g→Ext w w'→w'.heap.size=g+1→L P n ops Q rest (upd f d (.pointer (some ⟨g,0,none⟩))) w') :
   L P n ops Q (⟨some d,.alloc ty,t,pos,af,none⟩ :: rest) f w:=by
 obtain ⟨v,hv,hc⟩:=hz.h;have hsz:=hz.s;cases hq:P.info? ty with
 | none=>simp [hq] at hv
 | some i =>
   have h0:i.zero=some v:=(by simpa [hq] using hv);haveI:TInfo P ty i.size i.bytes v:=⟨by simp [hq,h0]⟩;refine Ls X_alloc (h _ _ ?_ Y (q1k _ _) (by simp));rw [hc];exact Blk.new _ _ _
theorem q2s {l:List Value} (hx:ev n f x=.agg l.toArray) (h:∀ g w',Blk w' g ty l→w.heap.size=g→Ext w w'→w'.heap.size=g+1→L P n ops Q rest (upd f d (.pointer (some ⟨g,0,none⟩))) w') :
   L P n ops Q (⟨some d,.box ty x,t,pos,af,none⟩ :: rest) f w :=
 Ls (X_box hx) (h _ _ (Blk.new _ _ _) Y (q1k _ _) (by simp))
theorem q8m {v:Value} (hx:ev n f x=v) (h1:v.oneCell'=true) (h:∀ g w',Blk w' g ty [v]→w.heap.size=g→Ext w w'→w'.heap.size=g+1→L P n ops Q rest (upd f d (.pointer (some ⟨g,0,none⟩))) w') :
   L P n ops Q (⟨some d,.box ty x,t,pos,af,none⟩ :: rest) f w :=
 Ls (X_box1 hx (by cases v <;> first | rfl | cases h1)) (h _ _ (Blk.new _ _ _) Y (q1k _ _) (by simp))
theorem q1b [TOne P ty] {b o:Nat} {T:TypeId} {cs:List Value} {v:Value} (hx:ev n f x=.pointer (some ⟨b,o,none⟩)) (hy:ev n f y=v) (h1:v.oneCell'=true) (hB:Blk w b T cs) (ho:o < cs.length)
   (h:∀ w',Blk w' b T (cs.set o v)→w.grownBy w' (some b)→w'.heap.size=w.heap.size→L P n ops Q rest f w'):L P n ops Q (⟨none,.store ty x y,t,pos,af,none⟩ :: rest) f w :=
 Ln (X_store1 hx hy h1 hB ho) (h _ (hB.setRow _) (q3v _ _ _) (by simp [World.setRow]))
theorem q8w {size:Nat} [TAgg P ty size] {b o:Nat} {T:TypeId} {cs l:List Value} (hx:ev n f x=.pointer (some ⟨b,o,none⟩)) (hy:ev n f y=.agg l.toArray) (hl:l.length=size) (h1:∀ v∈l,v.oneCell'=true) (hB:Blk w b T cs) (ho:o+size≤cs.length)
   (h:∀ w',Blk w' b T (cs.take o++l++cs.drop (o+size))→w.grownBy w' (some b)→w'.heap.size=w.heap.size→L P n ops Q rest f w'):L P n ops Q (⟨none,.store ty x y,t,pos,af,none⟩ :: rest) f w :=
 Ln (q9w hx hy hl h1 hB ho) (h _ (hB.setRow _) (q3v _ _ _) (by simp [World.setRow]))
theorem q0t {size:Nat} [TAgg P ty size] {b:Nat} {T:TypeId} {cs l:List Value} (hx:ev n f x=.pointer (some ⟨b,0,none⟩)) (hy:ev n f y=.agg l.toArray) (hl:l.length=size) (h1:∀ v∈l,v.oneCell'=true) (hB:Blk w b T cs) (ho:cs.length=size)
   (h:∀ w',Blk w' b T l→w.grownBy w' (some b)→w'.heap.size=w.heap.size→L P n ops Q rest f w'):L P n ops Q (⟨none,.store ty x y,t,pos,af,none⟩ :: rest) f w :=
 q8w hx hy hl h1 hB (by omega) fun w' hB'=>h w' (by
   rw [List.drop_eq_nil_of_le (by omega)] at hB'
   simpa using hB')
theorem L_fv {id:FuncId} [TFun P id] {l:List Operand} {vl:List Value} {tys:Array TypeId} {V:Value} (ha:l.map (ev n f)=vl) (c:Calls P id vl.toArray w fun e w'=>e=.returned V∧Ext w w')
   (h:∀ w',Ext w w'→L P n ops Q rest (upd f d V) w'):L P n ops Q (⟨some d,.call ⟨.value (.func id),l.toArray,tys⟩,t,pos,af,none⟩ :: rest) f w :=
 L_fn c ha fun _ w' ⟨he,hE⟩=>⟨V,he,h w' hE⟩
theorem L_fo {F:Value→World→Prop} {id:FuncId} [TFun P id] {l:List Operand} {vl:List Value} {tys:Array TypeId} (ha:l.map (ev n f)=vl) (c:Calls P id vl.toArray w fun e w'=>∃ v,e=.returned v∧F v w')
   (h:∀ v w',F v w'→L P n ops Q rest (upd f d v) w'):L P n ops Q (⟨some d,.call ⟨.value (.func id),l.toArray,tys⟩,t,pos,af,none⟩ :: rest) f w :=
 L_fn c ha fun _ w' ⟨v,he,hF⟩=>⟨v,he,h v w' hF⟩
end M
theorem tab_set (A:List Nat) (m x i:Nat) (hi:i=A.length):(A++List.replicate (m+1) 0).set i x=(A++[x])++List.replicate m 0:=by
 subst hi;rw [List.set_append_right _ _ (Nat.le_refl _)];simp [List.replicate_succ]
theorem tab_get (A:List Nat) (m i:Nat) (hi:i < A.length):(A++List.replicate m 0).getD i 0=A.getD i 0:=by
 rw [List.getD_eq_getElem?_getD,List.getD_eq_getElem?_getD,List.getElem?_append_left hi]
theorem X_arrZero {P:Program} {d:Option Tmp} {t ty:TypeId} {pos:String} {af:Array Edge} {g:Option (Nat × Bool)} {len:Nat} {e:TypeId} {z:List Value} [hs:TArr P ty len e] [hz:TZero P e z] [ha:TZero P ty (List.replicate len z).flatten] :
   X P n ⟨d,.build ty #[],t,pos,af,g⟩ f w=.ok (.value (.agg (List.replicate len z).flatten.toArray)) w :=
 z4e (r:=[]) (Parts.nil _)
section C
variable {d:Option Tmp} {t ty ty':TypeId} {pos:String} {af:Array Edge} {g:Option (Nat × Bool)} {x y:Operand} {k:IntKind} {a b:Int}
theorem q2k (hx:ev n f x=.int k a) (hy:ev n f y=.int k b) (h:a < b):X P n ⟨d,.binOp .lss ty x y ty',t,pos,af,g⟩ f w=.ok (.value (.bool true)) w:=by
 rw [q2h hx hy,decide_eq_true h]
theorem q1f (hx:ev n f x=.int k a) (hy:ev n f y=.int k b) (h:¬ a < b):X P n ⟨d,.binOp .lss ty x y ty',t,pos,af,g⟩ f w=.ok (.value (.bool false)) w:=by
 rw [q2h hx hy,decide_eq_false h]
theorem q4r (hx:ev n f x=.int k a) (hy:ev n f y=.int k b) (h:a≤b):X P n ⟨d,.binOp .leq ty x y ty',t,pos,af,g⟩ f w=.ok (.value (.bool true)) w:=by
 rw [X_leq hx hy,decide_eq_true h]
theorem q6h (hx:ev n f x=.int k a) (hy:ev n f y=.int k b) (h:¬ a≤b):X P n ⟨d,.binOp .leq ty x y ty',t,pos,af,g⟩ f w=.ok (.value (.bool false)) w:=by
 rw [X_leq hx hy,decide_eq_false h]
theorem q3l (hx:ev n f x=.int k a) (hy:ev n f y=.int k b) (h:b < a):X P n ⟨d,.binOp .gtr ty x y ty',t,pos,af,g⟩ f w=.ok (.value (.bool true)) w:=by
 rw [z3e hx hy,decide_eq_true h]
theorem q1q (hx:ev n f x=.int k a) (hy:ev n f y=.int k b) (h:¬ b < a):X P n ⟨d,.binOp .gtr ty x y ty',t,pos,af,g⟩ f w=.ok (.value (.bool false)) w:=by
 rw [z3e hx hy,decide_eq_false h]
theorem q3o (hx:ev n f x=.int k a) (hy:ev n f y=.int k b) (h:b≤a):X P n ⟨d,.binOp .geq ty x y ty',t,pos,af,g⟩ f w=.ok (.value (.bool true)) w:=by
 rw [X_geq hx hy,decide_eq_true h]
theorem q5a (hx:ev n f x=.int k a) (hy:ev n f y=.int k b) (h:¬ b≤a):X P n ⟨d,.binOp .geq ty x y ty',t,pos,af,g⟩ f w=.ok (.value (.bool false)) w:=by
 rw [X_geq hx hy,decide_eq_false h]
theorem q2j (hx:ev n f x=.int k a) (hy:ev n f y=.int k b) (h:a=b):X P n ⟨d,.binOp .eql ty x y ty',t,pos,af,g⟩ f w=.ok (.value (.bool true)) w:=by
 rw [z1i hx hy,decide_eq_true h]
theorem q2g (hx:ev n f x=.int k a) (hy:ev n f y=.int k b) (h:¬ a=b):X P n ⟨d,.binOp .eql ty x y ty',t,pos,af,g⟩ f w=.ok (.value (.bool false)) w:=by
 rw [z1i hx hy,decide_eq_false h]
theorem q2t (hx:ev n f x=.int k a) (hy:ev n f y=.int k b) (h:a ≠ b):X P n ⟨d,.binOp .neq ty x y ty',t,pos,af,g⟩ f w=.ok (.value (.bool true)) w:=by
 rw [X_neq hx hy,decide_eq_true h]
theorem q2e (hx:ev n f x=.int k a) (hy:ev n f y=.int k b) (h:¬ a ≠ b):X P n ⟨d,.binOp .neq ty x y ty',t,pos,af,g⟩ f w=.ok (.value (.bool false)) w:=by
 rw [X_neq hx hy,decide_eq_false h]
theorem q1y {e:TypeId} [TSlice P ty e] {lo hi size m:Nat} {v:Value} {xs:List Value} {wr:World} (hx:ev n f x=v) (hr:Row wr lo hi size v m xs):X P n ⟨d,.call ⟨.builtin .len,#[x],#[ty]⟩,t,pos,af,g⟩ f w=.ok (.value (.int .i64 (m:Nat))) w:=by
 obtain ⟨_,A,c,rfl,_⟩:=hr;exact q0i hx
end C
theorem q0r {c:Operand} {x y:Code} (hc:ev n f c=.bool true) (h:W P n x Q f w):W P n (.cond c x y) Q f w:=q8j hc (fun _=>h) (fun h=>by cases h)
theorem q0h {c:Operand} {x y:Code} (hc:ev n f c=.bool false) (h:W P n y Q f w):W P n (.cond c x y) Q f w:=q8j hc (fun h=>by cases h) (fun _=>h)
theorem Lg {d:Tmp} {op:Op} {t:TypeId} {pos:String} {af:Array Edge} {gd:Nat × Bool} {v:Value} (hw:q4a n ops f ⟨some d,op,t,pos,af,some gd⟩=true) (hr:X P n ⟨some d,op,t,pos,af,none⟩ f w=.ok (.value v) w) (h:L P n ops Q rest (upd f d v) w) :
   L P n ops Q (⟨some d,op,t,pos,af,some gd⟩ :: rest) f w:=L_on hw (q9e (o:=⟨some d,op,t,pos,af,some gd⟩) hr h)
theorem Lo {d:Option Tmp} {op:Op} {t:TypeId} {pos:String} {af:Array Edge} {gd:Nat × Bool} (hw:q4a n ops f ⟨d,op,t,pos,af,some gd⟩=false) (h:L P n ops Q rest (updo f d undef) w) :
   L P n ops Q (⟨d,op,t,pos,af,some gd⟩ :: rest) f w:=L_off hw h
theorem q7e {o:Oper} {j:Nat} {want b:Bool} {t':Tmp} (hg:o.guard=some (j,want)) (hd:(ops[j]?).bind (·.dst)=some t') (hn:Nat.blt t' n.k=true) (hv:f t'=.bool b):q4a n ops f o=(b == want):=by
 rw [z1v hg];have hlt:t' < n.k:=by rwa [Nat.blt_eq] at hn
 have:yielded ops (arr n f) j=some b:=by
   unfold yielded;rw [hd];simp only [Option.bind_some,arr_get?,hlt,if_true,hv]
 rw [this];cases b <;> cases want <;> rfl
theorem Lg2 {d:Tmp} {op:Op} {t:TypeId} {pos:String} {af:Array Edge} {j:Nat} {want:Bool} {t':Tmp} {v:Value} (hd:(ops[j]?).bind (·.dst)=some t') (hn:Nat.blt t' n.k=true) (hv:f t'=.bool want) (hr:X P n ⟨some d,op,t,pos,af,none⟩ f w=.ok (.value v) w) (h:L P n ops Q rest (upd f d v) w) :
   L P n ops Q (⟨some d,op,t,pos,af,some (j,want)⟩ :: rest) f w:=Lg ((q7e Y hd hn hv).trans (by cases want <;> rfl)) hr h
theorem Lo2 {d:Option Tmp} {op:Op} {t:TypeId} {pos:String} {af:Array Edge} {j:Nat} {want b:Bool} {t':Tmp} (hd:(ops[j]?).bind (·.dst)=some t') (hn:Nat.blt t' n.k=true) (hv:f t'=.bool b) (hb:(b == want)=false) (h:L P n ops Q rest (updo f d undef) w) :
   L P n ops Q (⟨d,op,t,pos,af,some (j,want)⟩ :: rest) f w:=Lo ((q7e Y hd hn hv).trans hb) h
theorem i_ng {d:Option Tmp} {op:Op} {t:TypeId} {pos:String} {af:Array Edge} (h:L P n ops Q (⟨d,op,t,pos,af,none⟩ :: rest) f w):L P n ops Q (⟨d,op,t,pos,af,none⟩ :: rest) f w:=h
theorem i_gd {d:Option Tmp} {op:Op} {t:TypeId} {pos:String} {af:Array Edge} {gd:Nat × Bool} (h:L P n ops Q (⟨d,op,t,pos,af,some gd⟩ :: rest) f w):L P n ops Q (⟨d,op,t,pos,af,some gd⟩ :: rest) f w:=h
inductive Res (P:Program) (n:NN) (f:Fr) (w:World):List ResultVar→List Value→Prop
 | nil:Res P n f w [] []
 | tmp {t:Tmp} {v:Value} {l:List ResultVar} {vs:List Value} (h:ev n f (.tmp t)=v) (r:Res P n f w l vs):Res P n f w (.tmp t :: l) (v :: vs)
 | cellA {p:Tmp} {ty b size:Nat} {cs:List Value} {l:List ResultVar} {vs:List Value} (hs:TAgg P ty size) (hp:ev n f (.tmp p)=.pointer (some ⟨b,0,none⟩)) (hc:w.rangeAt b 0 cs) (hl:cs.length=size) (r:Res P n f w l vs):Res P n f w (.cell p ty :: l) (.agg cs.toArray :: vs)
 | cell1 {p:Tmp} {ty b:Nat} {v:Value} {l:List ResultVar} {vs:List Value} (hs:TOne P ty) (hp:ev n f (.tmp p)=.pointer (some ⟨b,0,none⟩)) (hc:w.cell? ⟨b,0,none⟩=some v) (r:Res P n f w l vs):Res P n f w (.cell p ty :: l) (v :: vs)
def z0w:List Value→Value
 | [v]=>v
 | vs=>.tuple vs.toArray
def resF (tmps:Array Value):ResultVar→Sem Value
 | .tmp t=>pure (tmps.getD t undef)
 | .cell a t=>do loadVar t (← asAddr (tmps.getD a undef))
theorem results_eq (fn:Func) (tmps:Array Value):results fn tmps=(do let vs ← fn.results.mapM (resF tmps);pure (if h:vs.size=1 then vs[0] else .tuple vs)):=by
 unfold results;congr 1
theorem Res.run {l:List ResultVar} {vs:List Value} (h:Res P n f w l vs):(l.mapM (m:=Sem) (resF (arr n f))).run P w=.ok vs w:=by
 induction h with
 | nil=>simp
 | @tmp t v l vs hh r ih =>
   have e:(arr n f).getD t undef=v:=(by rw [q7o];exact hh);rw [List.mapM_cons,Sem.run_bind];simp only [resF,e,Sem.run_pure,Result.andThen_ok,Sem.run_bind,ih]
 | @cellA p ty b size cs l vs hs hp hc hl r ih =>
   have e:(arr n f).getD p undef=.pointer (some ⟨b,0,none⟩):=(by rw [q7o];exact hp);obtain ⟨D,hD,hd⟩:=hs.h;rw [List.mapM_cons,Sem.run_bind];have ea:asAddr ((arr n f).getD p undef)=pure ⟨b,0,none⟩:=(by rw [e];rfl);simp only [resF,ea,Sem.run_bind,Sem.run_pure,Result.andThen_ok];rw [run_loadVar_mid w b 0 ty cs D hc hD hd (by rw [hs.s,hl])];simp only [Result.andThen_ok,ih]
 | @cell1 p ty b v l vs hs hp hc r ih =>
   have e:(arr n f).getD p undef=.pointer (some ⟨b,0,none⟩):=(by rw [q7o];exact hp);obtain ⟨D,hD,hd⟩:=hs.h;have hload:(loadVar ty ⟨b,0,none⟩).run P w=.ok v w:=by
     have ha:(isAgg ty).run P w=.ok false w:=by
       unfold isAgg;rw [Sem.run_bind,run_underlying hD];cases D <;> simp_all
     simp [loadVar,ha,load,Sem.run,hc]
   rw [List.mapM_cons,Sem.run_bind];have ea:asAddr ((arr n f).getD p undef)=pure ⟨b,0,none⟩:=(by rw [e];rfl);simp only [resF,ea,Sem.run_bind,Sem.run_pure,Result.andThen_ok];rw [hload];simp only [Result.andThen_ok,ih]
theorem q6v {fn:Func} {R:Ending→World→Prop} {l:List ResultVar} {vs:List Value} (hr:fn.results=l.toArray) (h:Res P n f w l vs) (hR:R (.returned (z0w vs)) w):q7s P fn R (arr n f) [] w:=by
 refine ⟨z0w vs,?_,hR⟩;have:=h.run;rw [results_eq,Sem.run_bind,hr,map_run,Sem.run_bind,this];simp only [Result.andThen_ok,Sem.run_pure];cases vs with
 | nil=>rfl
 | cons v vs =>
   cases vs with
   | nil=>rfl
   | cons u vs=>simp [z0w]
theorem q0z {fn:Func} {R:Ending→World→Prop} {l:List ResultVar} {vs:List Value} (hr:fn.results=l.toArray) (hn:n.dv=[]) (h:Res P n f w l vs) (hR:R (.returned (z0w vs)) w):endQ P n fn R .ret f w:=by
 show q7s P fn R (arr n f) n.dv w;rw [hn];exact q6v hr h hR
theorem endQ_resD {fn:Func} {R:Ending→World→Prop} {l:List ResultVar} {vs:List Value} {D:Nat} (hr:fn.results=l.toArray) (hn:n.dv=[{ target:=.collected D,args:=#[] }]) (hD:w.heap[D]?=some (.deferred (some [])))
   (h:Res P n f (w.putObj D (.deferred none)) l vs) (hR:R (.returned (z0w vs)) (w.putObj D (.deferred none))):endQ P n fn R .ret f w:=by
 show q7s P fn R (arr n f) n.dv w;rw [hn];exact ⟨D,rfl,hD,q6v hr h hR⟩
theorem shrink6 (d0 d1 d2 d3 d4 d5:Nat) {c:Code} {v0 v1 v2 v3 v4 v5:Value} (h0:f d0=v0) (h1:f d1=v1) (h2:f d2=v2) (h3:f d3=v3) (h4:f d4=v4) (h5:f d5=v5) (H:∀ g,W P n c Q (upd (upd (upd (upd (upd (upd g d0 v0) d1 v1) d2 v2) d3 v3) d4 v4) d5 v5) w):W P n c Q f w:=by
 have:=H f;subst h0 h1 h2 h3 h4 h5;simpa only [z1l] using this
theorem shrink7 (d0 d1 d2 d3 d4 d5 d6:Nat) {c:Code} {v0 v1 v2 v3 v4 v5 v6:Value} (h0:f d0=v0) (h1:f d1=v1) (h2:f d2=v2) (h3:f d3=v3) (h4:f d4=v4) (h5:f d5=v5) (h6:f d6=v6) (H:∀ g,W P n c Q (upd (upd (upd (upd (upd (upd (upd g d0 v0) d1 v1) d2 v2) d3 v3) d4 v4) d5 v5) d6 v6) w):W P n c Q f w:=by
 have:=H f;subst h0 h1 h2 h3 h4 h5 h6;simpa only [z1l] using this
theorem shrink9 (d0 d1 d2 d3 d4 d5 d6 d7 d8:Nat) {c:Code} {v0 v1 v2 v3 v4 v5 v6 v7 v8:Value} (h0:f d0=v0) (h1:f d1=v1) (h2:f d2=v2) (h3:f d3=v3) (h4:f d4=v4) (h5:f d5=v5) (h6:f d6=v6) (h7:f d7=v7) (h8:f d8=v8) (H:∀ g,W P n c Q (upd (upd (upd (upd (upd (upd (upd (upd (upd g d0 v0) d1 v1) d2 v2) d3 v3) d4 v4) d5 v5) d6 v6) d7 v7) d8 v8) w):W P n c Q f w:=by
 have:=H f;subst h0 h1 h2 h3 h4 h5 h6 h7 h8;simpa only [z1l] using this
theorem q5n (a b:Nat) (ha:a < 4294967296) (hb:b < 4294967296):bits .and .u32 (a:Int) (b:Int)=((a &&& b:Nat):Int):=by
 have hx:a &&& b < 2 ^ 32:=Nat.and_lt_two_pow _ (by omega);show IntKind.u32.wrap ((BitVec.ofInt 32 (a:Int) &&& BitVec.ofInt 32 (b:Int)).toNat:Int)=_;rw [BitVec.toNat_and,BitVec.ofInt_natCast,BitVec.ofInt_natCast,BitVec.toNat_ofNat,BitVec.toNat_ofNat,Nat.mod_eq_of_lt ha,Nat.mod_eq_of_lt hb,IntKind.wrap_u32];omega
theorem z2r (a b:Nat) (ha:a < 4294967296) (hb:b < 4294967296):bits .or .u32 (a:Int) (b:Int)=((a ||| b:Nat):Int):=by
 have hx:a ||| b < 2 ^ 32:=Nat.or_lt_two_pow (by omega) (by omega);show IntKind.u32.wrap ((BitVec.ofInt 32 (a:Int) ||| BitVec.ofInt 32 (b:Int)).toNat:Int)=_;rw [BitVec.toNat_or,BitVec.ofInt_natCast,BitVec.ofInt_natCast,BitVec.toNat_ofNat,BitVec.toNat_ofNat,Nat.mod_eq_of_lt ha,Nat.mod_eq_of_lt hb,IntKind.wrap_u32];omega
theorem q3w (a b:Nat) (ha:a < 4294967296) (hb:b < 4294967296):bits .xor .u32 (a:Int) (b:Int)=((a ^^^ b:Nat):Int):=by
 have hx:a ^^^ b < 2 ^ 32:=Nat.xor_lt_two_pow (by omega) (by omega);show IntKind.u32.wrap ((BitVec.ofInt 32 (a:Int) ^^^ BitVec.ofInt 32 (b:Int)).toNat:Int)=_;rw [BitVec.toNat_xor,BitVec.ofInt_natCast,BitVec.ofInt_natCast,BitVec.toNat_ofNat,BitVec.toNat_ofNat,Nat.mod_eq_of_lt ha,Nat.mod_eq_of_lt hb,IntKind.wrap_u32];omega
theorem q8e (a b:Nat) (ha:a < 18446744073709551616) (hb:b < 18446744073709551616):bits .and .u64 (a:Int) (b:Int)=((a &&& b:Nat):Int):=by
 have hx:a &&& b < 2 ^ 64:=Nat.and_lt_two_pow _ (by omega);show IntKind.u64.wrap ((BitVec.ofInt 64 (a:Int) &&& BitVec.ofInt 64 (b:Int)).toNat:Int)=_;rw [BitVec.toNat_and,BitVec.ofInt_natCast,BitVec.ofInt_natCast,BitVec.toNat_ofNat,BitVec.toNat_ofNat,Nat.mod_eq_of_lt ha,Nat.mod_eq_of_lt hb,IntKind.wrap_u64];omega
theorem q9d (a b:Nat) (ha:a < 18446744073709551616) (hb:b < 18446744073709551616):bits .or .u64 (a:Int) (b:Int)=((a ||| b:Nat):Int):=by
 have hx:a ||| b < 2 ^ 64:=Nat.or_lt_two_pow (by omega) (by omega);show IntKind.u64.wrap ((BitVec.ofInt 64 (a:Int) ||| BitVec.ofInt 64 (b:Int)).toNat:Int)=_;rw [BitVec.toNat_or,BitVec.ofInt_natCast,BitVec.ofInt_natCast,BitVec.toNat_ofNat,BitVec.toNat_ofNat,Nat.mod_eq_of_lt ha,Nat.mod_eq_of_lt hb,IntKind.wrap_u64];omega
theorem u32_nat (x:Nat):IntKind.u32.wrap (x:Int)=((x % 4294967296:Nat):Int):=by rw [IntKind.wrap_u32];omega
theorem z5a (x k:Nat):(x:Int).fdiv (2 ^ k)=((x / 2 ^ k:Nat):Int):=by
 rw [Int.fdiv_eq_ediv_of_nonneg _ (by exact Int.le_of_lt (Int.pow_pos (by omega)))];simp
section slices
variable {d:Option Tmp} {t:TypeId} {pos:String} {af:Array Edge} {g:Option (Nat × Bool)} {x:Operand}
theorem z2w {ty:TypeId} {e:TypeId} {size m c:Nat} [TSlice P ty e] [TSz P e size] {A:Option Addr} {a b:Operand} {ka kb:IntKind} {ia jb:Int} (i j:Nat)
   (hx:ev n f x=.slice A m c) (ha:ev n f a=.int ka ia) (hb:ev n f b=.int kb jb) (hi:ia=(i:Int)) (hj:jb=(j:Int)) (hij:i≤j) (hjc:j≤c) :
   X P n ⟨d,.slice ty x (some a) (some b) none,t,pos,af,g⟩ f w=.ok (.value (.slice (if c=i then A else A.map (·.add (i * size))) (j - i) (c - i))) w:=by
 subst hi;subst hj;exact z2y hx ⟨_,ha⟩ ⟨_,hb⟩ hij hjc
theorem q9x {ty:TypeId} {e:TypeId} {size m c:Nat} [TSlice P ty e] [TSz P e size] {A:Option Addr} {b:Operand} {kb:IntKind} {jb:Int} (j:Nat)
   (hx:ev n f x=.slice A m c) (hb:ev n f b=.int kb jb) (hj:jb=(j:Int)) (hjc:j≤c) :
   X P n ⟨d,.slice ty x none (some b) none,t,pos,af,g⟩ f w=.ok (.value (.slice (if c=0 then A else A.map (·.add (0 * size))) (j - 0) (c - 0))) w:=by
 subst hj;exact z2y hx Y ⟨_,hb⟩ (Nat.zero_le _) hjc
theorem z1r {ty:TypeId} {e:TypeId} {size m c:Nat} [TSlice P ty e] [TSz P e size] {A:Option Addr} {a:Operand} {ka:IntKind} {ia:Int} (i:Nat)
   (hx:ev n f x=.slice A m c) (ha:ev n f a=.int ka ia) (hi:ia=(i:Int)) (him:i≤m) (hmc:m≤c) :
   X P n ⟨d,.slice ty x (some a) none none,t,pos,af,g⟩ f w=.ok (.value (.slice (if c=i then A else A.map (·.add (i * size))) (m - i) (c - i))) w:=by
 subst hi;exact z2y hx ⟨_,ha⟩ Y him hmc
theorem Row.re {w:World} {lo hi size m m':Nat} {v:Value} {xs ys:List Value} (h:Row w lo hi size v m xs) (hm:m=m') (hx:xs=ys):Row w lo hi size v m' ys:=by subst hm;subst hx;exact h
theorem Row.cut {w:World} {lo hi m c:Nat} {A:Option Addr} {k:IntKind} {l:List Nat} {i j q:Nat} (h:Row w lo hi 1 (.slice A m c) m (ints k l)) (hij:i≤j) (hj:j≤m) (hq:j - i=q) :
   Row w lo hi 1 (.slice (if c=i then A else A.map (·.add (i * 1))) (j - i) (c - i)) q (ints k ((l.drop i).take q)):=by
 subst hq;exact (h.slice Y hij hj).re Y (by simp only [Nat.mul_one,z2m,q9n])
end slices
end Go.Proofs.K
namespace Go.Proofs.K
open Go.RowKit
variable {P:Program} {n:NN} {Q:Exit→Fr→World→Prop} {f:Fr} {w:World} {ops:Array Oper} {rest:List Oper}
def strB (l:List Nat):ByteArray:=⟨(l.map UInt8.ofNat).toArray⟩
def sb (s:ByteArray):List Nat:=s.data.toList.map UInt8.toNat
theorem q3u (s:ByteArray):(sb s).length=s.size:=by simp only [sb,List.length_map,Array.length_toList];rfl
theorem sb_lt (s:ByteArray):∀ x∈sb s,x < 256:=by
 intro x hx;obtain ⟨b,_,rfl⟩:=List.mem_map.1 hx;exact b.toNat_lt
theorem q4f (l:List Nat):(strB l).size=l.length:=by
 show (l.map UInt8.ofNat).toArray.size=_;simp only [List.size_toArray,List.length_map]
theorem strB_sb (s:ByteArray):strB (sb s)=s:=by
 cases s with
 | mk d =>
   simp only [strB,sb,List.map_map];congr 1;have:(UInt8.ofNat ∘ UInt8.toNat)=id:=(by funext b;simp);rw [this];simp
theorem q9c {l:List Nat} (h:∀ x∈l,x < 256):sb (strB l)=l:=by
 simp only [sb,strB,List.map_map];conv=>rhs;rw [← List.map_id l]
 exact List.map_congr_left fun x hx=>by simp [Nat.mod_eq_of_lt (h x hx)]
theorem sb_inj {s u:ByteArray} (h:sb s=sb u):s=u:=by rw [← strB_sb s,h,strB_sb]
theorem sb_get (s:ByteArray) {i:Nat} (h:i < s.size):(s[i].toNat:Nat)=(sb s).getD i 0:=by
 have h':i < s.data.size:=h;simp only [sb,List.getD,List.getElem?_map,Array.getElem?_toList,Array.getElem?_eq_getElem h',Option.map_some,Option.getD_some];rfl
section
variable {d:Option Tmp} {t src dst e:TypeId} {pos:String} {af:Array Edge} {g:Option (Nat × Bool)} {x y:Operand}
theorem X_toStr [hs:TSlice P src e] [he:TInt P e .u8] [hd:TStr P dst] {lo hi:Nat} {v:Value} {l:List Nat} (hx:ev n f x=v) (hr:Row w lo hi 1 v l.length (ints .u8 l)) :
   X P n ⟨d,.convert src dst x,t,pos,af,g⟩ f w=.ok (.value (.string (strB l))) w:=by
 subst hx;obtain ⟨_,A,c,hv,_,_,hc⟩:=hr;have e1:strB l=strOfNums (l.map Int.ofNat):=by simp [strB,strOfNums,Function.comp_def]
 rcases Nat.eq_zero_or_pos l.length with h0 | h0
 · have:l=[]:=List.eq_nil_of_length_eq_zero h0;subst this;cases A with
   | none =>
     have:=run_convert_bytes_nil (P:=P) w src e hs.h he.h 0 c dst hd.h;simp [X,execOp,hv,this];rfl
   | some a =>
     have:=run_convert_bytes_string (P:=P) w src dst e (some a) 0 c hs.h he.h hd.h;rw [run_bytesToString w a 0 c [] (by simp [loadCells,loadCellsFrom])] at this;simp [X,execOp,hv,this];rfl
 · obtain ⟨b,o,rfl,_,_,hrow⟩:=hc h0
   have:=run_convert_bytes_arg (P:=P) w src e hs.h he.h b o l.length c (l.map Int.ofNat) (by simp) (fun i hi=>by
     have:=hrow i (.int .u8 (l.getD i 0:Nat)) (by simp [ints,List.getD,hi])
     rw [this];simp [List.getD,hi]) dst hd.h
   simp [X,execOp,hv,this,e1]
theorem X_toBytes [hs:TStr P src] [hd:TSlice P dst e] [he:TInt P e .u8] {s:ByteArray} (hx:ev n f x=.string s) (hl:s.size≤maxLen) :
   ∃ v w',X P n ⟨d,.convert src dst x,t,pos,af,g⟩ f w=.ok (.value v) w'∧Ext w w'∧Row w' w.heap.size w'.heap.size 1 v s.size (ints .u8 (sb s)):=by
 refine ⟨.slice (some ⟨w.heap.size,0,none⟩) s.size (grownCap w s.size 0 e),Lib.bytesWorld w e s,?_,?_,?_⟩
 · have:=Lib.run_convert_string_bytes (P:=P) w src dst e s hs.h hd.h he.h;simp [X,execOp,hx,this]
 · refine ⟨rfl,rfl,rfl,by rw [Lib.bytesWorld_size];omega,fun k hk _=>Lib.bytesWorld_at_old w e s k hk⟩
 · refine ⟨by rw [q0v,q3u,Nat.mul_one],_,_,rfl,grownCap_ge w _ _ _,grownCap_le_maxLen w _ _ _ hl,fun h0=>⟨_,_,rfl,Nat.le_refl _,by rw [Lib.bytesWorld_size];omega,fun j u hu=>?_⟩⟩;have hj:j < s.size:=by
     have:=(List.getElem?_eq_some_iff.1 hu).1;simpa [q0v,q3u] using this
   have hc:=Lib.bytesWorld_cell w e s j hj;rw [Nat.zero_add,hc];have hj2:j < s.data.size:=hj;have e3:s.data[j]?=some s.data[j]:=Array.getElem?_eq_getElem hj2;simp only [ints,sb,List.getElem?_map,Array.getElem?_toList,e3,Option.map_some,Option.some.injEq] at hu;rw [← hu];simp only [List.getD,Array.getElem?_toList,e3,Option.getD_some]
end
theorem z1s {d:Option Tmp} {t:TypeId} {pos:String} {af:Array Edge} {g:Option (Nat × Bool)} {x y:Operand} {ty ty2:TypeId} {a b v:Value} {w':World} (hx:ev n f x=a) (hy:ev n f y=b) (h:(Builtin.append_ #[ty,ty2] t #[a,b]).run P w=.ok v w') :
   X P n ⟨d,.call ⟨.builtin .append,#[x,y],#[ty,ty2]⟩,t,pos,af,g⟩ f w=.ok (.value v) w':=by
 subst hx;subst hy;simp [X,execOp,resolve,invoke,builtin,h]
section
variable {d:Tmp} {t ty ty2 src dst e:TypeId} {pos:String} {af:Array Edge} {x y:Operand}
theorem L_toBytes [hs:TStr P src] [hd:TSlice P dst e] [he:TInt P e .u8] {s:ByteArray} (hx:ev n f x=.string s) (hl:s.size≤maxLen)
   (h:∀ v w',Ext w w'→Row w' w.heap.size w'.heap.size 1 v s.size (ints .u8 (sb s))→L P n ops Q rest (upd f d v) w') :
   L P n ops Q (⟨some d,.convert src dst x,t,pos,af,none⟩ :: rest) f w:=by
 obtain ⟨v,w',hX,h1,h2⟩:=X_toBytes (P:=P) (d:=some d) (t:=t) (dst:=dst) (src:=src) (pos:=pos) (af:=af) (g:=none) hx hl;exact Ls hX (h v w' h1 h2)
theorem q8k {z:List Value} {len:Nat} {zs':List (List Value)} {cs:List Value} [hs:TSlice P ty e] [hz:TZero P e z] {r:List (Nat × Operand)}
   (hp:Parts n f (List.replicate len z) r zs') (hlen:Nat.ble (len * z.length) 65536=true) (hcs:zs'.flatten=cs) (hl:cs.length=len * z.length) (hk0:Nat.ble len 65536=true)
   (h:∀ q w',Row w' w.heap.size w'.heap.size z.length q len cs→Ext w w'→w'.heap.size=w.heap.size+1→w'.ownsRow w.heap.size e z.length q len cs→q=.slice (some ⟨w.heap.size,0,none⟩) len len→L P n ops Q rest (upd f d q) w') :
   L P n ops Q (⟨some d,.buildSlice ty len r.toArray,t,pos,af,none⟩ :: rest) f w:=by
 have hk:len≤maxLen:=Nat.le_trans (Nat.le_of_ble_eq_true hk0) (by unfold maxLen;omega);refine Ls (z0a hp hlen hcs) (h _ _ ?_ (q1k _ _) (by simp) (z4t w e _ len _ cs hl hk (Nat.le_refl _)) Y);have:=Row.lit w e _ len cs hl hk;rwa [show (w.alloc (.cells cs.toArray e)).heap.size=w.heap.size+1 from by simp]
end
end Go.Proofs.K
namespace Go.Proofs.K
open Go.RowKit
variable {P:Program} {n:NN} {Q:Exit→Fr→World→Prop} {f:Fr} {w:World} {ops:Array Oper} {rest:List Oper}
class TEq (P:Program) (t:TypeId):Prop where
 k:P.keyTypeAt 4 t=true
 g:P.eqGuardType P.depth t=false
 s:(∃ fs,P.underlying t=some (.struct fs))∨∃ m e,P.underlying t=some (.array m e)
section
variable {d:Option Tmp} {t ty:TypeId} {pos:String} {af:Array Edge} {g:Option (Nat × Bool)} {x y:Operand}
end
theorem mapM_all {α β:Type} {h:α→Option β} {g:α→β}:∀ {l:List α},(∀ x∈l,h x=some (g x))→l.mapM h=some (l.map g)
 | [],_=>rfl
 | x :: l,hh=>by
   rw [List.mapM_cons,hh x (by simp),mapM_all (fun y hy=>hh y (by simp [hy]))];rfl
theorem wf_nat (k:IntKind) (b:Nat) (hk:k.min≤0∧k.max=(b:Int) - 1) {x:Nat} (hx:x < b):(Lit.int k (x:Int)).wf=true:=by
 simp only [Lit.wf,Bool.and_eq_true,decide_eq_true_eq];omega
theorem wf_u8 {x:Nat} (hx:x < 256):(Lit.int .u8 (x:Int)).wf=true:=wf_nat .u8 256 (by decide) hx
theorem wf_u64 {x:Nat} (hx:x < 18446744073709551616):(Lit.int .u64 (x:Int)).wf=true:=wf_nat .u64 18446744073709551616 (by decide) hx
theorem keyLits_int {e:TypeId} {k:IntKind} [h:TInt P e k] (D:Nat) {x:Nat} (hx:(Lit.int k (x:Int)).wf=true):P.keyLits (D+1) e [.int k (x:Int)]=some [.int k (x:Int)]:=by
 simp [Program.keyLits,h.h,hx]
theorem range_getD (l:List Nat):(List.range l.length).map (fun i=>l.getD i 0)=l:=by
 apply List.ext_getElem
 · simp
 · intro i h1 h2;simp [List.getD,h2]
theorem keyLits_arr {t e m:Nat} {k:IntKind} [h:TArr P t m e] [hk:TInt P e k] (D:Nat) (he:P.cellsOf e=1) (ht:P.cellsOf t=m) {l:List Nat} (hl:l.length=m) (hw:∀ x∈l,(Lit.int k (x:Int)).wf=true) :
   P.keyLits (D+2) t (ints k l)=some (l.map fun x=>.int k (x:Int)):=by
 subst hl;unfold Program.keyLits;simp only [h.h,q0v,ht,if_true,he,Nat.mul_one];rw [mapM_all (g:=fun i=>[Lit.int k ((l.getD i 0:Nat):Int)])]
 · simp only [Option.map_some,Option.some.injEq];conv=>rhs;rw [← range_getD l]
   rw [List.map_map];induction List.range l.length with
   | nil=>rfl
   | cons a r ih=>simp only [List.map_cons,List.flatten_cons,ih];rfl
 · intro i hi;have hi':i < l.length:=List.mem_range.1 hi;have:((ints k l).drop i).take 1=[Value.int k ((l.getD i 0:Nat):Int)]:=by
     rw [List.drop_eq_getElem_cons (by rw [q0v];exact hi')];simp [ints,List.getD,hi']
   rw [this];exact keyLits_int D (hw _ (by simp [List.getD,hi']))
theorem z2k {t:TypeId} {f0 f1:Field} {D:Nat} {cs:List Value} {a b:List Lit} (h:P.underlying t=some (.struct #[f0,f1])) (n0:(f0.name != "_")=true) (n1:(f1.name != "_")=true) (hl:cs.length=P.cellsOf t)
   (k0:P.keyLits D f0.type ((cs.drop f0.offset).take (P.cellsOf f0.type))=some a) (k1:P.keyLits D f1.type ((cs.drop f1.offset).take (P.cellsOf f1.type))=some b):P.keyLits (D+1) t cs=some (a++b):=by
 unfold Program.keyLits;simp [h,hl,n0,n1,k0,k1]
theorem lits_inj {k:IntKind} {a b:List Nat}:(a.map fun x:Nat=>Lit.int k (x:Int))=(b.map fun x:Nat=>Lit.int k (x:Int))↔a=b:=by
 constructor
 · intro h;induction a generalizing b with
   | nil=>cases b with
     | nil=>rfl
     | cons y b=>simp at h
   | cons x a ih=>cases b with
     | nil=>simp at h
     | cons y b =>
       simp only [List.map_cons,List.cons.injEq,Lit.int.injEq,true_and] at h
       rw [ih h.2,show x=y by omega]
 · rintro rfl;rfl
section
variable {A:Nat→World→Prop} {Fin:List Oper→(Rho→Fr)→(Rho→Nat→World→Prop)→Prop} {k:Nat} {E:List Ent} {g:Rho→Fr} {H:Rho→Nat→World→Prop} {d:Tmp} {op:Op} {t:TypeId} {pos:String} {af:Array Edge} {w0:World}
def RowF (w0:World) (size:Nat) (v:Value) (m:Nat) (xs:List Value) (w:World):Prop:=∃ lo hi,w0.heap.size≤lo∧Row w lo hi size v m xs
def OwnF (w0:World) (e:TypeId) (size:Nat) (v:Value) (m:Nat) (xs:List Value) (w:World):Prop:=∃ b,w0.heap.size≤b∧w.ownsRow b e size v m xs
theorem RowF.ext {size m:Nat} {v:Value} {xs:List Value} {w w':World} (E:Ext w w') (h:RowF w0 size v m xs w):RowF w0 size v m xs w':=by
 obtain ⟨lo,hi,h1,h2⟩:=h;exact ⟨lo,hi,h1,h2.ext E⟩
theorem OwnF.ext {e:TypeId} {size m:Nat} {v:Value} {xs:List Value} {w w':World} (E:Ext w w') (h:OwnF w0 e size v m xs w):OwnF w0 e size v m xs w':=by
 obtain ⟨b,h1,h2⟩:=h;exact ⟨b,h1,q1g h2 E⟩
theorem DW_d {R:Nat→World→World→Prop} [ExtR R] {F:Rho→Value→World→Prop} (hX:∀ r w,A k w→(∀ j,td ops k j=true→H r j w)→∃ v w',X P n ⟨some d,op,t,pos,af,none⟩ (g r) w=.ok (.value v) w'∧Ext w w'∧F r v w') (hF:∀ i r v w w',i ≠ k→td ops k i=false→R i w w'→F r v w→F r v w')
   (hi:∀ r v,F (rset r k v)=F r)
   (hr:DW R P n ops A Fin rest (k+1) E (fun r=>upd (g r) d (r k)) (fun r j w=>bif Nat.beq j k then F r (r k) w else H r j w)):DW R P n ops A Fin (⟨some d,op,t,pos,af,none⟩ :: rest) k (.op (fun r w=>F r (r k) w) :: E) g H:=by
 refine .op (fun r w hA hH=>⟨rfl,?_⟩) (fun i r w w' h1 h2 hE h=>hF i _ _ _ _ h1 h2 hE h) hr;obtain ⟨v,w',h1,h2,h3⟩:=hX r w hA hH;exact q9e h1 ⟨ExtR.h _ _ _ h2,by rw [q6b,hi];exact h3⟩
end
theorem calls_own {w0:World} {id:FuncId} {vl:Array Value} {e0:TypeId} {size m:Nat} {xs:List Value} (hA:Ext w0 w) (h:Calls P id vl w fun e w'=>∃ q,e=.returned q∧Ext w w'∧w'.ownsRow w.heap.size e0 size q m xs) :
   Calls P id vl w fun e w'=>∃ q,e=.returned q∧Ext w w'∧OwnF w0 e0 size q m xs w' :=
 Calls.mono h fun _ _ ⟨q,h1,h2,h3⟩=>⟨q,h1,h2,w.heap.size,hA.size,h3⟩
def RB (g:Nat) (T:TypeId) (o l:List Value) (_:Nat) (w w':World):Prop:=w.grownBy w' (some g)∧(Blk w g T l→Blk w' g T l)∧(Blk w g T o→Blk w' g T o∨Blk w' g T l)
theorem RB.refl (g:Nat) (T:TypeId) (o l:List Value) (i:Nat) (w:World):RB g T o l i w w:=⟨⟨rfl,rfl,rfl,Nat.le_refl _,fun _ _ _=>rfl⟩,id,.inl⟩
instance {g:Nat} {T:TypeId} {o l:List Value}:ExtR (RB g T o l):=⟨fun _ _ _ E=>⟨E.row _,fun h=>h.ext E,fun h=>.inl (h.ext E)⟩⟩
def AB (g:Nat) (T:TypeId) (o l:List Value) (w0 w:World):Prop:=w0.grownBy w (some g)∧(Blk w g T o∨Blk w g T l)
theorem AB.step {g:Nat} {T:TypeId} {o l:List Value} {w0:World}:∀ i w w',RB g T o l i w w'→AB g T o l w0 w→AB g T o l w0 w' :=
 fun _ _ _ ⟨h1,h2,h3⟩ ⟨k1,k2⟩=>⟨q0e k1 h1 (fun _ h=>.inl h),k2.elim h3 fun h=>.inr (h2 h)⟩
theorem AB.new {g:Nat} {T:TypeId} {o l:List Value} {w0:World} (h:Blk w0 g T o):AB g T o l w0 w0.drew:=⟨(Ext.drew w0).row _,.inl (h.ext (Ext.drew w0))⟩
section
variable {A:Nat→World→Prop} {Fin:List Oper→(Rho→Fr)→(Rho→Nat→World→Prop)→Prop} {k:Nat} {E:List Ent} {g:Rho→Fr} {H:Rho→Nat→World→Prop} {t:TypeId} {pos:String} {af:Array Edge} {w0:World} {ty:TypeId} {x y:Operand}
theorem z0e {b size:Nat} {T:TypeId} {o l:List Value} [TAgg P ty size] (hx:∀ r,ev n (g r) x=.pointer (some ⟨b,0,none⟩)) (hy:∀ r,ev n (g r) y=.agg l.toArray) (ho:o.length=size) (hl:l.length=size) (h1:∀ v∈l,v.oneCell'=true)
   (hr:DW (RB b T o l) P n ops (fun _=>AB b T o l w0) Fin rest (k+1) E g (fun r j w=>bif Nat.beq j k then Blk w b T l else H r j w)):DW (RB b T o l) P n ops (fun _=>AB b T o l w0) Fin (⟨none,.store ty x y,t,pos,af,none⟩ :: rest) k (.op (fun _ w=>Blk w b T l) :: E) g H:=by
 refine .op (fun r w hA hH=>⟨rfl,?_⟩) (fun _ _ _ _ _ _ hE h=>hE.2.1 h) hr;have key:∀ c:List Value,c.length=size→Blk w b T c→Run P n ⟨none,.store ty x y,t,pos,af,none⟩ (g r) w fun v w'=>RB b T o l k w w'∧Blk w' b T l:=by
   intro c hc B;have hX:=q9w (P:=P) (n:=n) (f:=g r) (w:=w) (d:=none) (t:=t) (pos:=pos) (af:=af) (g:=none) (ty:=ty) (hx r) (hy r) hl h1 B (o:=0) (by omega);have hcs:c.take 0++l++c.drop (0+size)=l:=(by rw [List.drop_eq_nil_of_le (by omega)];simp);rw [hcs] at hX;have B':=B.setRow l;exact q8u hX ⟨⟨q3v _ _ _,fun _=>B',fun _=>.inr B'⟩,B'⟩
 exact hA.2.elim (key o ho) (key l hl)
end
end Go.Proofs.K
namespace Go.Proofs.K
open Go.RowKit Go.Shelf
variable {P:Program} {n:NN} {Q:Exit→Fr→World→Prop} {f:Fr} {w:World} {ops:Array Oper} {rest:List Oper}
def Book (B:Nat) (w w':World):Prop:=∃ row,w.grownBy w' row∧∀ r,row=some r→B≤r∧∃ o:Obj,w.heap[r]?=some o∧o.isCells=false
theorem Book.put {B l:Nat} {w:World} {o:Obj} (o':Obj) (hl:B≤l) (h:w.heap[l]?=some o) (hc:o.isCells=false):Book B w (w.putObj l o') :=
 ⟨some l,grownBy_putObj' w l o',fun r e=>by cases e;exact ⟨hl,o,h,hc⟩⟩
theorem Book.alloc {B:Nat} (w:World) (o:Obj):Book B w (w.alloc o):=⟨none,World.grownBy_alloc w o none,fun r e=>by cases e⟩
def q5c (l:Nat):Value:=.func (.yield l) #[] #[]
def Iter (P:Program) (gf:FuncId) (lb:Array Value) (w:World) (Pre:Nat→Value→World→Prop) (Kp It Ix:World→World→Prop) (Fin:Nat→World→Prop):Prop :=
 ∀ (l:Nat) (J:Nat→World→Prop) (Jx:World→Prop) (w1:World),Ext w w1 →
   (∀ i a b,J i a→It a b→J i b)→(∀ a b,Jx a→Ix a b→Jx b) →
   (∀ i v a,J i a→Pre i v a→YieldAt Fence.wide 8 P l #[v] a fun e b=>(e=.returned (.bool true)∧J (i+1) b∧Kp a b)∨(e=.returned (.bool false)∧Jx b)) →
   J 0 w1→Calls P gf (#[q5c l]++lb) w1 fun e b=>(∃ v,e=.returned v)∧((∃ i,Fin i b∧J i b)∨Jx b)
def roundQ (id B:Nat) (N S:World→Prop) (w:World):Exit→Fr→World→Prop
 | .normal,_,w'=>KeepsFrom B w w'∧N w'
 | .exit id',_,w'=>id'=id∧KeepsFrom B w w'∧S w'
 | _,_,_=>False
theorem room_none {F:Fence} (h:F.depth=none) (m:Nat):F.room m:=by simp [Fence.room,h]
theorem q9f {F:Fence} (h:F.depth=none) {c:Code} {Q':Exit→Act→World→Prop} {a:Act} {m m':Nat} (hw:c.wpIn F m P Q' a w):c.wpIn F m' P Q' a w:=fun b k cs hro hb _=>hw b k cs hro hb (room_none h _)
theorem n9 {f:FuncId} {args:Array Value} {R:Ending→World→Prop} {m:Nat}:(Calls P f args w R→CallsIn (NN.fen ⟨0,[],none⟩) m P f args w R)∧True:=⟨fun h=>NN.calls ⟨0,[],none⟩ m h,trivial⟩
def TB (P:Program) (n:NN) (fn:Func) (R:Ending→World→Prop) (b d:Code) (f:Fr) (w:World):Prop:=b.wpIn n.fen 9 P (Exit.then (d.wpIn n.fen 9 P (bodyPostM n.fen 9 P fn R)) (bodyPostM n.fen 9 P fn R)) (act n f) w
theorem T_seq2 {fn:Func} {R:Ending→World→Prop} {a b d:Code} (h:W P n a (q9b (TB P n fn R b d) (endQ P n fn R)) f w):T P n fn R (.seq (.seq a b) d) f w:=by
 refine wpIn_seq (wpIn_seq (wpIn_mono h ?_));rintro e a w ⟨f,rfl,hq⟩;cases e with
 | normal=>exact hq
 | ret=>exact q6y .ret _ _ ⟨f,rfl,hq⟩
 | panic ch=>exact q6y (.panic ch) _ _ ⟨f,rfl,hq⟩
 | outgrown=>exact hq
 | exit id=>exact hq.elim
 | goto l=>exact hq.elim
theorem T_range {k id:Nat} {fn:Func} {R:Ending→World→Prop} {g:Operand} {p:Tmp} {assign body d:Code} {gf:FuncId} {lb:Array Value}
   (hg:ev ⟨k,[],none⟩ f g=.func (.func gf) #[] lb) (he:Enters P gf)
   {Pre:Nat→Value→World→Prop} {Kp It Ix:World→World→Prop} {Fin:Nat→World→Prop} (hit:Iter P gf lb w Pre Kp It Ix Fin)
   (hKt:∀ a b c,Kp a b→Kp b c→Kp a c) (hKb:∀ a l o o',w.heap.size≤l→a.heap[l]?=some o→o.isCells=false→Kp a (a.putObj l o'))
   (hIt:∀ a b,It a b→KeepsFrom w.heap.size a b) (hIx:∀ a b,Ix a b→KeepsFrom w.heap.size a b)
   (Inv:Nat→World→Prop) (Stop:World→Prop) (hI:∀ i a b,Inv i a→It a b→Inv i b) (hIb:∀ i a b,Inv i a→Book w.heap.size a b→Inv i b)
   (hS:∀ a b,Stop a→Ix a b→Stop b) (hSb:∀ a b,Stop a→Book w.heap.size a b→Stop b) (hPb:∀ i v a b,Pre i v a→Book w.heap.size a b→Pre i v b) (hFb:∀ i a b,Fin i a→Book w.heap.size a b→Fin i b)
   (h0:Inv 0 w) (gv:Fr→Value→Fr)
   (hassign:∀ l v a,W P ⟨k,[],some l⟩ assign (fun e f' b=>e=.normal∧f'=gv f v∧b=a) (upd f p v) a)
   (hbody:∀ l i v a,Inv i a→Pre i v a→W P ⟨k,[],some l⟩ body (roundQ id w.heap.size (fun b=>Kp a b∧Inv (i+1) b) Stop a) (gv f v) a)
   (hdone:∀ D b,w.heap.size≤D→((∃ i,Fin i b∧Inv i b)∨Stop b)→b.heap[D]?=some (.deferred (some []))→T P ⟨k,[{ target:=.collected D,args:=#[] }],none⟩ fn R d f b) :
   TB P ⟨k,[],none⟩ fn R (.block id (.rangeFunc g #[p] assign body)) d f w:=by
 refine wpIn_block (wpIn_rangeFunc fun fn' hfn=>?_);obtain ⟨rec,hrec⟩:∃ rec:LoopState→Option Code→Loop,rec=fun st pe=>{ state:=st,pending:=pe,fn:=fn',tmps:=arr ⟨k,[],none⟩ f,params:=#[p],assign,body,defers:=w.heap.size }:=⟨_,rfl⟩;obtain ⟨wl,hwl⟩:∃ wl,(w.alloc (.deferred (some []))).alloc (.loop (rec .ready none))=wl:=⟨_,rfl⟩;have hL1:wl.heap[w.heap.size+1]?=some (.loop (rec .ready none)):=by
   rw [← hwl];have:=World.alloc_heap_new (w.alloc (.deferred (some []))) (.loop (rec .ready none));rwa [World.size_alloc] at this
 have hK1:wl.heap[w.heap.size]?=some (.deferred (some [])):=by
   rw [← hwl];exact (Below.heap_alloc _ _ _ (by simp)).trans (World.alloc_heap_new w _)
 have hE1:Ext w wl:=by rw [← hwl];exact (q1k w _).trans (q1k _ _)
 have hI1:Inv 0 wl:=by rw [← hwl];exact hIb _ _ _ (hIb _ _ _ h0 (Book.alloc _ _)) (Book.alloc _ _)
 refine ⟨w.heap.size+1,[{ target:=.collected w.heap.size,args:=#[] }],wl,{ target:=.fn (.func gf) lb,args:=#[q5c (w.heap.size+1)] },wl,gf,#[q5c (w.heap.size+1)]++lb,wl,?_,?_,?_,?_,fun _=>by omega,?_⟩
 · rw [← hwl,hrec];exact run_enterLoop_outer _ _ _ _ _
 · rw [q7p];simp only [resolve,hg];simp [q5c,ev,go_sem]
 · exact fun _ _=>trivial
 · exact he _ _
 · have heq:∀ st pe,(rec st pe).fn=fn'∧(rec st pe).tmps=arr ⟨k,[],none⟩ f∧(rec st pe).params=#[p]∧(rec st pe).assign=assign∧(rec st pe).body=body∧(rec st pe).state=st∧(rec st pe).pending=pe:=fun st pe=>(by rw [hrec];exact ⟨rfl,rfl,rfl,rfl,rfl,rfl,rfl⟩);have hst:∀ st pe st',({ rec st pe with state:=st' }:Loop)=rec st' pe:=fun st pe st'=>(by rw [hrec]);have hst2:∀ st pe st' pe',({ rec st pe with state:=st',pending:=pe' }:Loop)=rec st' pe':=fun st pe st' pe'=>(by rw [hrec]);have hlb:w.heap.size≤w.heap.size+1:=(by omega);refine n9.1 ((hit (w.heap.size+1)
     (fun i a=>Inv i a∧a.heap[w.heap.size+1]?=some (.loop (rec .ready none))∧a.heap[w.heap.size]?=some (.deferred (some [])))
     (fun a=>Stop a∧a.heap[w.heap.size+1]?=some (.loop (rec .done (some (.exit id))))∧a.heap[w.heap.size]?=some (.deferred (some [])))
     wl hE1
     (fun i a b h hi=>⟨hI i a b h.1 hi,(hIt a b hi).same _ _ hlb h.2.1 Y,(hIt a b hi).same _ _ (Nat.le_refl _) h.2.2 Y⟩)
     (fun a b h hi=>⟨hS a b h.1 hi,(hIx a b hi).same _ _ hlb h.2.1 Y,(hIx a b hi).same _ _ (Nat.le_refl _) h.2.2 Y⟩)
     ?_ ⟨hI1,hL1,hK1⟩).mono ?_)
   · rintro i v a ⟨hi,hl,hk⟩ hp;have hlt:w.heap.size+1 < a.heap.size:=(Array.getElem?_eq_some_iff.1 hl).1;have hy:=run_yield (P:=P) (args:=#[v]) hl (by rw [(heq _ _).2.2.1];rfl);rw [(heq _ _).1,(heq _ _).2.1,(heq _ _).2.2.1,(heq _ _).2.2.2.1,(heq _ _).2.2.2.2.1] at hy;refine ⟨fn',_,assign,body,hy,roundIn_of_wpIn hfn ?_⟩;have htm:(#[p].zip #[v]).foldl (fun (t:Array Value) (q,a)=>t.setIfInBounds q a) (arr ⟨k,[],none⟩ f)=arr ⟨k,[],some (w.heap.size+1)⟩ (upd f p v):=by
       rw [← z2u];simp;rfl
     rw [htm];refine q9f (m:=9) Y (wpIn_mono (hassign (w.heap.size+1) v a) ?_);rintro e a1 w1 ⟨f',rfl,rfl,rfl,rfl⟩;refine ⟨_,run_beginRound hl (heq _ _).2.2.2.2.2.1,?_⟩;rw [hst];have hbk:Book w.heap.size w1 (w1.putObj (w.heap.size+1) (.loop (rec .busy none))):=Book.put _ hlb hl Y;have hl2:(w1.putObj (w.heap.size+1) (.loop (rec .busy none))).heap[w.heap.size+1]?=some (.loop (rec .busy none)):=World.putObj_heap_same hlt;have hk2:(w1.putObj (w.heap.size+1) (.loop (rec .busy none))).heap[w.heap.size]?=some (.deferred (some [])):=(World.putObj_heap_other (by omega)).trans hk;have hw2:=hKb w1 (w.heap.size+1) _ (.loop (rec .busy none)) hlb hl Y;refine q9f (m:=9) Y (wpIn_mono (hbody (w.heap.size+1) i v _ (hIb _ _ _ hi hbk) (hPb _ _ _ _ hp hbk)) ?_);have fin:∀ (jump:Option Code) (c:World),KeepsFrom w.heap.size (w1.putObj (w.heap.size+1) (.loop (rec .busy none))) c →
         (Instr.endRound (w.heap.size+1) jump).run P c=.ok (.bool jump.isNone) (c.putObj (w.heap.size+1) (.loop (rec (if jump.isNone then .ready else .done) jump))) ∧
         c.heap[w.heap.size+1]?=some (.loop (rec .busy none)) ∧
         (c.putObj (w.heap.size+1) (.loop (rec (if jump.isNone then .ready else .done) jump))).heap[w.heap.size+1]?=some (.loop (rec (if jump.isNone then .ready else .done) jump)) ∧
         (c.putObj (w.heap.size+1) (.loop (rec (if jump.isNone then .ready else .done) jump))).heap[w.heap.size]?=some (.deferred (some [])):=fun jump c hc=>by
       have hl3:=hc.same _ _ hlb hl2 Y;have:=run_endRound (P:=P) jump hl3;rw [hst2] at this;exact ⟨this,hl3,World.putObj_heap_same (Array.getElem?_eq_some_iff.1 hl3).1,(World.putObj_heap_other (by omega)).trans (hc.same _ _ (Nat.le_refl _) hk2 Y)⟩
     rintro e a3 w3 ⟨f3,rfl,hq⟩;cases e with
     | normal =>
       obtain ⟨hc,hkp,hi3⟩:=hq;obtain ⟨hr,hl3,hl4,hk4⟩:=fin none w3 hc;exact ⟨_,_,hr,.inl ⟨rfl,⟨hIb _ _ _ hi3 (Book.put _ hlb hl3 Y),hl4,hk4⟩,hKt _ _ _ (hKt _ _ _ hw2 hkp) (hKb _ _ _ _ hlb hl3 Y)⟩⟩
     | exit id' =>
       obtain ⟨rfl,hc,hs3⟩:=hq;obtain ⟨hr,hl3,hl4,hk4⟩:=fin (some (.exit id')) w3 hc;exact ⟨_,_,hr,.inr ⟨rfl,hSb _ _ hs3 (Book.put _ hlb hl3 Y),hl4,hk4⟩⟩
     | ret=>exact hq.elim
     | goto t=>exact hq.elim
     | panic ch=>exact hq.elim
     | outgrown=>exact hq.elim
   · rintro e b ⟨⟨v,rfl⟩,h⟩;rcases h with ⟨i,hf,hi,hl,hk⟩ | ⟨hs,hl,hk⟩
     · refine ⟨none,_,by have:=run_endLoop (P:=P) hl (by rw [(heq _ _).2.2.2.2.2.1];simp);rw [hst,(heq _ _).2.2.2.2.2.2] at this;exact this,?_⟩;have hbk:Book w.heap.size b (b.putObj (w.heap.size+1) (.loop (rec .exhausted none))):=Book.put _ hlb hl Y;exact hdone w.heap.size _ (Nat.le_refl _) (.inl ⟨i,hFb _ _ _ hf hbk,hIb _ _ _ hi hbk⟩) ((World.putObj_heap_other (by omega)).trans hk)
     · refine ⟨some (.exit id),_,by have:=run_endLoop (P:=P) hl (by rw [(heq _ _).2.2.2.2.2.1];simp);rw [hst,(heq _ _).2.2.2.2.2.2] at this;exact this,?_⟩;have hbk:Book w.heap.size b (b.putObj (w.heap.size+1) (.loop (rec .exhausted (some (.exit id))))):=Book.put _ hlb hl Y;refine wpIn_exit ?_;simp only [Exit.inBlock,if_true];exact hdone w.heap.size _ (Nat.le_refl _) (.inr (hSb _ _ hs hbk)) ((World.putObj_heap_other (by omega)).trans hk)
section
variable {d:Tmp} {t:TypeId} {pos:String} {af:Array Edge} {x:Operand}
theorem z3h {l:Nat} {asl:List Operand} {vl:List Value} {tys:Array TypeId} {R:Ending→World→Prop} (hn:n.ro=none) (hx:ev n f x=q5c l) (ha:asl.map (ev n f)=vl) (hY:YieldAt Fence.wide 8 P l vl.toArray w R)
   (h:∀ e w',R e w'→∃ v,e=.returned v∧L P n ops Q rest (upd f d v) w'):L P n ops Q (⟨some d,.call ⟨.value x,asl.toArray,tys⟩,t,pos,af,none⟩ :: rest) f w:=by
 obtain ⟨fn,tm,asg,body,hy,hR⟩:=hY;have hX:X P n ⟨some d,.call ⟨.value x,asl.toArray,tys⟩,t,pos,af,none⟩ f w=.ok (.round l fn tm asg body) w:=by
   subst ha;simp [X,execOp,resolve,hx,q5c,Deferred.ofValue,invoke,hy]
 refine L_run Y ?_;unfold Run;rw [hX];refine ⟨hn,hR.mono fun e w' hh=>?_⟩;obtain ⟨v,rfl,hk⟩:=h e w' hh;exact hk
end
section
variable {d:Option Tmp} {t ty e:TypeId} {pos:String} {af:Array Edge} {g:Option (Nat × Bool)} {x y:Operand} {k:Nat} {A:Nat→World→Prop} {Fin:List Oper→(Rho→Fr)→(Rho→Nat→World→Prop)→Prop} {E:List Ent} {gf:Rho→Fr} {H:Rho→Nat→World→Prop} {R:Nat→World→World→Prop} {gd:Option (Nat × Bool)}
theorem q1m {a:Addr} (hx:ev n f x=.pointer (some a)):X P n ⟨d,.nilCheck x,t,pos,af,g⟩ f w=.ok (.value (.pointer (some a))) w:=by
 simp [X,execOp,hx]
theorem i_nil (h:L P n ops Q (⟨d,.nilCheck x,t,pos,af,g⟩ :: rest) f w):L P n ops Q (⟨d,.nilCheck x,t,pos,af,g⟩ :: rest) f w:=h
theorem X_indexVI {len i:Nat} {kk ki:IntKind} [hs:TArr P ty len e] [h1:TOne P e] {l:List Nat} (hx:ev n f x=.agg (ints kk l).toArray) (hy:ev n f y=.int ki (i:Int)) (h:i < len) (hl:l.length=len) :
   X P n ⟨d,.index ty x y,t,pos,af,g⟩ f w=.ok (.value (.int kk ((l.getD i 0:Nat):Int))) w:=X_indexV hx hy h (q8o (by omega))
end
section
variable {d:Tmp} {t ty ty2 e:TypeId} {pos:String} {af:Array Edge} {x y:Operand}
theorem L_copy {b o b2 o2 c c2 dl sl m:Nat} {T:TypeId} {cur cs:List Value} [ht:TSlice P ty e] [hz:TSz P e 1] (hx:ev n f x=.slice (some ⟨b,o,none⟩) dl c) (hy:ev n f y=.slice (some ⟨b2,o2,none⟩) sl c2) (hB:Blk w b T cur) (hm:m=Nat.min sl dl) (hl:cs.length=m)
   (hsrc:w.rangeAt b2 o2 cs) (hfit:o+m≤cur.length) (h1:∀ v∈cs,v.oneCell'=true)
   (h:∀ w',Blk w' b T (cur.take o++cs++cur.drop (o+m))→w.grownBy w' (some b)→w'.heap.size=w.heap.size→L P n ops Q rest (upd f d (.int .i64 (m:Nat))) w') :
   L P n ops Q (⟨some d,.call ⟨.builtin .copy,#[x,y],#[ty,ty2]⟩,t,pos,af,none⟩ :: rest) f w:=by
 subst hl;have hrun:=run_copy_row (P:=P) w ty ty2 t e b o dl c ⟨b2,o2,none⟩ sl c2 cur.toArray T cs ht.h hz.h hB hm (fun j v hj=>by rw [Addr.add_mid];exact hsrc j v hj) (by simpa using hfit) h1;have hX:X P n ⟨some d,.call ⟨.builtin .copy,#[x,y],#[ty,ty2]⟩,t,pos,af,none⟩ f w=.ok (.value (.int .i64 (cs.length:Nat))) (w.setRow b (cur.take o++cs++cur.drop (o+cs.length)).toArray):=by
   simp [X,execOp,resolve,invoke,builtin,hx,hy,hrun,goInt]
 exact Ls hX (h _ (hB.setRow _) (q3v _ _ _) (by simp [World.setRow]))
end
section
variable {d:Option Tmp} {t ty e:TypeId} {pos:String} {af:Array Edge} {g:Option (Nat × Bool)} {x:Operand}
theorem X_arrFrom {size m:Nat} [hs:TArr P ty m e] [hz:TSz P e size] {b o:Nat} {a:Operand} {ka:IntKind} {ia:Int} (i:Nat) (hx:ev n f x=.pointer (some ⟨b,o,none⟩)) (ha:ev n f a=.int ka ia) (hi:ia=(i:Int)) (him:i < m) :
   X P n ⟨d,.slice ty x (some a) none none,t,pos,af,g⟩ f w=.ok (.value (.slice (some ⟨b,o+i * size,none⟩) (m - i) (m - i))) w:=by
 subst hi;have:=q8r (P:=P) (n:=n) (f:=f) (w:=w) (d:=d) (t:=t) (ty:=ty) (pos:=pos) (af:=af) (g:=g) (lo:=some a) (hi:=none) (j:=m) hx ⟨ka,ha⟩ Y (Nat.le_of_lt him) (Nat.le_refl _);rwa [if_neg (by omega)] at this
theorem X_arrTo {size m:Nat} [hs:TArr P ty m e] [hz:TSz P e size] {b o:Nat} {a:Operand} {ka:IntKind} {ja:Int} (j:Nat) (hx:ev n f x=.pointer (some ⟨b,o,none⟩)) (ha:ev n f a=.int ka ja) (hj:ja=(j:Int)) (hjm:j≤m) (hm:0 < m) :
   X P n ⟨d,.slice ty x none (some a) none,t,pos,af,g⟩ f w=.ok (.value (.slice (some ⟨b,o,none⟩) j m)) w:=by
 subst hj;have:=q8r (P:=P) (n:=n) (f:=f) (w:=w) (d:=d) (t:=t) (ty:=ty) (pos:=pos) (af:=af) (g:=g) (lo:=none) (hi:=some a) (i:=0) hx Y ⟨ka,ha⟩ (Nat.zero_le _) hjm;rw [if_neg (by omega)] at this;simpa using this
theorem X_arrAll {size m:Nat} [hs:TArr P ty m e] [hz:TSz P e size] {b o:Nat} (hx:ev n f x=.pointer (some ⟨b,o,none⟩)) (hm:0 < m) :
   X P n ⟨d,.slice ty x none none none,t,pos,af,g⟩ f w=.ok (.value (.slice (some ⟨b,o,none⟩) m m)) w:=by
 have:=q8r (P:=P) (n:=n) (f:=f) (w:=w) (d:=d) (t:=t) (ty:=ty) (pos:=pos) (af:=af) (g:=g) (lo:=none) (hi:=none) (i:=0) (j:=m) hx Y Y (Nat.zero_le _) (Nat.le_refl _);rw [if_neg (by omega)] at this;simpa using this
end
section
variable {d:Option Tmp} {t ty e:TypeId} {pos:String} {af:Array Edge} {g:Option (Nat × Bool)} {x y:Operand}
theorem X_eqlNil [h:TSlice P ty e] {A:Option Addr} {m c:Nat} (hx:ev n f x=.slice A m c) (hy:ev n f y=.slice none 0 0):X P n ⟨d,.binOp .eql ty x y ty,t,pos,af,g⟩ f w=.ok (.value (.bool A.isNone)) w:=by
 have hb:(binOp .eql ty (.slice A m c) (.slice none 0 0)).run P w=.ok (.bool A.isNone) w:=by
   simp only [binOp];simp [run_equal_slice_nil w ty e A m c h.h]
 simp only [X,execOp,hx,hy,eqGuard_at_slice];simp [hb,Result.andThen]
theorem X_cap [h:TSlice P ty e] {A:Option Addr} {m c:Nat} (hx:ev n f x=.slice A m c):X P n ⟨d,.call ⟨.builtin .cap,#[x],#[ty]⟩,t,pos,af,g⟩ f w=.ok (.value (.int .i64 (c:Nat))) w:=by
 simp [X,execOp,resolve,invoke,builtin,hx,Builtin.cap_,run_underlying h.h,goInt]
end
structure KeepBut (g:Nat) (a b:World):Prop where
 size:a.heap.size≤b.heap.size
 same:∀ k c t fz,k ≠ g→a.heap[k]?=some (.cells c t fz)→b.heap[k]?=some (.cells c t fz)
theorem KeepBut.trans {g:Nat} {a b c:World} (h:KeepBut g a b) (k:KeepBut g b c):KeepBut g a c:=⟨Nat.le_trans h.size k.size,fun _ _ _ _ hj hx=>k.same _ _ _ _ hj (h.same _ _ _ _ hj hx)⟩
theorem KeepBut.of {g:Nat} {a b:World} {row:Option Nat} (h:a.grownBy b row) (hr:∀ r,row=some r→r=g∨∃ o:Obj,a.heap[r]?=some o∧o.isCells=false):KeepBut g a b :=
 ⟨h.size,fun k c t fz hk hc=>(h.block k (Array.getElem?_eq_some_iff.1 hc).1 (fun e=>by
   rcases hr k e.symm with rfl | ⟨o,ho,hn⟩
   · exact hk Y
   · rw [hc] at ho;cases ho;cases hn)).trans hc⟩
theorem Book.keep {B g:Nat} {a b:World} (h:Book B a b):KeepBut g a b:=by
 obtain ⟨row,hg,hr⟩:=h;exact KeepBut.of hg fun r e=>.inr (hr r e).2
theorem KeepBut.put {g l:Nat} {a:World} {o:Obj} (o':Obj) (h:a.heap[l]?=some o) (hc:o.isCells=false):KeepBut g a (a.putObj l o') :=
 KeepBut.of (grownBy_putObj' a l o') fun r e=>by cases e;exact .inr ⟨o,h,hc⟩
theorem KeepBut.blk {g k:Nat} {a b:World} {T:TypeId} {cs:List Value} (h:KeepBut g a b) (B:Blk a k T cs) (hk:k ≠ g):Blk b k T cs:=h.same _ _ _ _ hk B
theorem q4i {w:World} {a:Addr} {v:Value} (h:w.cell? a=some v):∃ c t fz,w.heap[a.block]?=some (.cells c t fz):=by
 unfold World.cell? at h;split at h
 · rename_i c t fz he;exact ⟨c,t,fz,he⟩
 · cases h
theorem KeepBut.cell {g:Nat} {a b:World} {p:Addr} {v:Value} (h:KeepBut g a b) (hp:p.block ≠ g) (hv:a.cell? p=some v):b.cell? p=some v:=by
 obtain ⟨c,t,fz,hc⟩:=q4i hv;unfold World.cell? at hv ⊢;rw [h.same _ _ _ _ hp hc];rw [hc] at hv;exact hv
theorem KeepBut.row {g lo hi size m:Nat} {a b:World} {v:Value} {xs:List Value} (h:KeepBut g a b) (hr:Row a lo hi size v m xs) (hg:¬ (lo≤g∧g < hi)):Row b lo hi size v m xs:=by
 obtain ⟨hl,A,c,he,hc,hcm,hn⟩:=hr;refine ⟨hl,A,c,he,hc,hcm,fun h0=>?_⟩;obtain ⟨q,o,hA,h1,h2,h3⟩:=hn h0;exact ⟨q,o,hA,h1,h2,fun j u hu=>h.cell (fun e=>hg (by simp only at e;omega)) (h3 j u hu)⟩
theorem KeepBut.own {g base size m:Nat} {a b:World} {e:TypeId} {v:Value} {xs:List Value} (h:KeepBut g a b) (ho:a.ownsRow base e size v m xs) (hg:g < base):b.ownsRow base e size v m xs:=by
 refine ⟨ho.1,?_⟩;rcases ho.2 with hn | ⟨q,cap,cur,hv,hb,hq,rest⟩
 · exact .inl hn
 · exact .inr ⟨q,cap,cur,hv,hb,h.same _ _ _ _ (by omega) hq,rest⟩
theorem Row.tight {w:World} {lo hi m:Nat} {v:Value} {xs:List Value} (h:Row w lo hi 1 v m xs):Row w lo w.heap.size 1 v m xs:=by
 obtain ⟨hl,A,c,he,hc,hcm,hn⟩:=h;refine ⟨hl,A,c,he,hc,hcm,fun h0=>?_⟩;obtain ⟨q,o,hA,h1,h2,h3⟩:=hn h0;refine ⟨q,o,hA,h1,?_,h3⟩;have hx:∃ u,xs[0]?=some u:=⟨xs[0]'(by omega),List.getElem?_eq_getElem (by omega)⟩;obtain ⟨u,hu⟩:=hx;obtain ⟨c,t,fz,hcc⟩:=q4i (h3 0 u hu);exact (Array.getElem?_eq_some_iff.1 hcc).1
section
variable {d:Tmp} {t ty ty2 e:TypeId} {pos:String} {af:Array Edge} {x y:Operand} {k:IntKind}
theorem L_appendZ {m:Nat} {z:Value} [ht:TSlice P ty e] [hu:TInt P ty2 k] [hz:TInfo P e 1 1 z] (hzs:z.cells.size=1) (hx:ev n f x=.slice none 0 0) (hy:ev n f y=.int .i64 (m:Nat)) (hm0:0 < m) (hm:m≤1000000000)
   (h:∀ c w',Ext w w'→m≤c→c≤maxLen→(∃ xs:List Value,xs.length=m∧w'.ownsRow w.heap.size e 1 (.slice (some ⟨w.heap.size,0,none⟩) m c) m xs)→L P n ops Q rest (upd f d (.slice (some ⟨w.heap.size,0,none⟩) m c)) w') :
   L P n ops Q (⟨some d,.call ⟨.builtin .append,#[x,y],#[ty,ty2]⟩,t,pos,af,none⟩ :: rest) f w:=by
 obtain ⟨i,hi',h0,h2,h3⟩:=info_parts hz.h;have hrun:=Lib.run_append_nil_zeros (P:=P) w ty ty2 t e i z .i64 k ht.h hu.h hi' h0 m hm0 (by omega) (by omega) (by rw [h3];omega);have hge:=grownCap_ge w m 0 e;have hcm:=grownCap_le_maxLen w m 0 e (by unfold maxLen;omega);refine Ls (z1s hx hy hrun) (h _ _ ⟨rfl,rfl,rfl,by simp,fun j hj _=>heap_alloc_old w.drew _ hj⟩ hge hcm ⟨(Builtin.zeroCells z.cells m).toList,by simp [size_zeroCells,hzs],by simp [size_zeroCells,hzs],.inr ⟨w.heap.size,_,_,rfl,Nat.le_refl _,heap_alloc_new w.drew _,hge,hcm,?_,?_⟩⟩)
 · simp only [Array.size_append,size_zeroCells,hzs];omega
 · rw [Array.toList_append,List.take_left' (by simp [size_zeroCells,hzs])]
end
def Rng (w:World) (k:Nat) (cs:List Value):Prop:=w.rangeAt k 0 cs
theorem Rng.ext {w w':World} {k:Nat} {cs:List Value} (h:Rng w k cs) (E:Ext w w'):Rng w' k cs:=E.range h
theorem Rng.grown {w w':World} {row:Option Nat} {k:Nat} {cs:List Value} (h:Rng w k cs) (hg:w.grownBy w' row) (hr:row ≠ some k):Rng w' k cs:=fun j v hv=>World.grownBy.cell hg (h j v hv) (fun e=>hr e.symm)
theorem Rng.cell {w:World} {k j:Nat} {cs:List Value} {v:Value} (h:Rng w k cs) (hv:cs[j]?=some v):w.cell? ⟨k,j,none⟩=some v:=by have:=h j v hv;rwa [Nat.zero_add] at this
theorem Rng.lt {w:World} {k:Nat} {cs:List Value} (h:Rng w k cs) (h0:0 < cs.length):k < w.heap.size:=World.block_lt_of_cell? w _ (h.cell (List.getElem?_eq_getElem h0))
section
variable {d:Option Tmp} {t ty:TypeId} {pos:String} {af:Array Edge} {g:Option (Nat × Bool)} {x:Operand} {k:IntKind}
theorem X_ldIg [TOne P ty] {b o:Nat} {l:List Nat} (hx:ev n f x=.pointer (some ⟨b,o,none⟩)) (hB:Rng w b (ints k l)) (hv:o < l.length):X P n ⟨d,.load ty x,t,pos,af,g⟩ f w=.ok (.value (.int k ((l.getD o 0:Nat):Int))) w :=
 z0u hx (hB.cell (q8o hv))
theorem X_ldWg {size:Nat} [hs:TAgg P ty size] {b:Nat} {cs:List Value} (hx:ev n f x=.pointer (some ⟨b,0,none⟩)) (hB:Rng w b cs) (hl:cs.length=size):X P n ⟨d,.load ty x,t,pos,af,g⟩ f w=.ok (.value (.agg cs.toArray)) w :=
 q2x hx hB hl
end
end Go.Proofs.K
namespace Go.Proofs.K
open Go.RowKit
variable {P:Program} {n:NN} {f:Fr} {w:World} {ops:Array Oper} {rest:List Oper}
section
variable {A:Nat→World→Prop} {Fin:List Oper→(Rho→Fr)→(Rho→Nat→World→Prop)→Prop} {k:Nat} {E:List Ent} {g:Rho→Fr} {H:Rho→Nat→World→Prop} {d:Tmp} {t ty e:TypeId} {pos:String} {af:Array Edge} {w0:World} {x y:Operand}
theorem RowF.lit (w:World) (e:TypeId) (cs:List Value) (h0:w0.heap.size≤w.heap.size) (m:Nat) (hm:cs.length=m) (hk:m≤maxLen):RowF w0 1 (.slice (some ⟨w.heap.size,0,none⟩) m m) m cs (w.alloc (.cells cs.toArray e)) :=
 ⟨_,_,h0,Row.lit w e 1 m cs (by omega) hk⟩
theorem DW_lit1 {z0:Value} [TSlice P ty e] [TZero P e [z0]] (a:Rho→Value) (hx:∀ r,ev n (g r) x=a r)
   (h1:∀ r w,A k w→(∀ j,td ops k j=true→H r j w)→(a r).oneCell'=true) (hA0:∀ w,A k w→w0.heap.size≤w.heap.size) (ha:∀ r v,a (rset r k v)=a r)
   (hr:DW ExtN P n ops A Fin rest (k+1) E (fun r=>upd (g r) d (r k)) (fun r j w=>bif Nat.beq j k then RowF w0 1 (r k) 1 [a r] w else H r j w)) :
   DW ExtN P n ops A Fin (⟨some d,.buildSlice ty 1 #[(0,x)],t,pos,af,none⟩ :: rest) k (.op (fun r w=>RowF w0 1 (r k) 1 [a r] w) :: E) g H :=
 DW_d (F:=fun r u w=>RowF w0 1 u 1 [a r] w) (fun r w hA hH=>⟨_,_,z3d (hx r) (h1 r w hA hH),q1k _ _,RowF.lit w e _ (hA0 w hA) 1 Y (by unfold maxLen;omega)⟩)
   (fun _ r u w w' _ _ E h=>RowF.ext E h) (fun r u=>by simp only [ha]) hr
def NewF (w0:World) (ty:TypeId) (z:List Value) (u:Value) (w:World):Prop:=∃ q,u=.pointer (some ⟨q,0,none⟩)∧w0.heap.size≤q∧Blk w q ty z
theorem NewF.ext {z:List Value} {u:Value} {w w':World} (E:Ext w w') (h:NewF w0 ty z u w):NewF w0 ty z u w':=by
 obtain ⟨q,h1,h2,h3⟩:=h;exact ⟨q,h1,h2,h3.ext E⟩
theorem z1t {z:List Value} [hz:TZero P ty z] (hA0:∀ w,A k w→w0.heap.size≤w.heap.size)
   (hr:DW ExtN P n ops A Fin rest (k+1) E (fun r=>upd (g r) d (r k)) (fun r j w=>bif Nat.beq j k then NewF w0 ty z (r k) w else H r j w)) :
   DW ExtN P n ops A Fin (⟨some d,.alloc ty,t,pos,af,none⟩ :: rest) k (.op (fun r w=>NewF w0 ty z (r k) w) :: E) g H :=
 DW_d (F:=fun _ u w=>NewF w0 ty z u w) (fun r w hA hH=>by
   obtain ⟨v,hv,hc⟩:=hz.h
   cases hq:P.info? ty with
   | none=>simp [hq] at hv
   | some i =>
     have h0:i.zero=some v:=by simpa [hq] using hv
     haveI:TInfo P ty i.size i.bytes v:=⟨by simp [hq,h0]⟩
     exact ⟨_,_,X_alloc,q1k _ _,w.heap.size,rfl,hA0 w hA,by rw [hc];exact Blk.new _ _ _⟩)
   (fun _ _ u w w' _ _ E h=>NewF.ext E h) (fun _ _=>rfl) hr
end
section
variable {d:Option Tmp} {t ty ty':TypeId} {pos:String} {af:Array Edge} {g:Option (Nat × Bool)} {x y:Operand}
end
end Go.Proofs.K
namespace Go.Proofs.K
open Go.RowKit
variable {P:Program} {n:NN} {Q:Exit→Fr→World→Prop} {f:Fr} {w:World} {ops:Array Oper} {rest:List Oper}
def z0v (e size m:Nat) (w w':World):Prop:=∀ base0 v0 m0 xs0,m0≤m→w.ownsRow base0 e size v0 m0 xs0→w'.ownsRow base0 e size v0 m0 xs0
theorem z0v.of_ext {e size m:Nat} {w w':World} (E:Ext w w'):z0v e size m w w':=fun _ _ _ _ _ h=>q1g h E
theorem z0v.setRow {e size m g cap:Nat} {cur:Array Value} {zs:List Value} {w:World} (hg:w.heap[g]?=some (.cells cur e (0,0))) (_hc:cur.size=cap * size) (hz:zs.length=cur.size) (ht:zs.take (m * size)=cur.toList.take (m * size)):z0v e size m w (w.setRow g zs.toArray):=by
 intro base0 v0 m0 xs0 hm ho;refine ⟨ho.1,?_⟩;rcases ho.2 with h | ⟨g0,cap0,cur0,hv,hb,hc0,h1,h2,h3,h4⟩
 · exact .inl h
 · by_cases hgg:g0=g
   · subst hgg;rw [hg] at hc0;injection hc0 with hc0;injection hc0 with hc0 _ _;subst hc0;refine .inr ⟨g0,cap0,zs.toArray,hv,hb,setRow_heap w g0 _ _ _ _ hg,h1,h2,by simp [hz,h3],?_⟩;rw [← h4];have hmm:m0 * size≤m * size:=Nat.mul_le_mul_right _ hm;have e1:=congrArg (List.take (m0 * size)) ht;rwa [List.take_take,List.take_take,Nat.min_eq_left hmm] at e1
   · exact .inr ⟨g0,cap0,cur0,hv,hb,(setRow_other w g g0 _ hgg).trans hc0,h1,h2,h3,h4⟩
theorem z2c {lo hi size bytes m k base:Nat} {t ty e:TypeId} {z u v:Value} {xs ys:List Value} [ht:TSlice P t e] [hz:TInfo P e size bytes z]
   (hzs:z.cells.size=size) (hsz:0 < size) (hown:w.ownsRow base e size v m xs) (hr:Row w lo hi size u k ys) (h1:∀ q∈ys,q.oneCell'=true) (hb:(m+k) * bytes≤140737488355328) (hm:m+k≤9223372036854775807) (hbase:base≤w.heap.size) :
   ∃ v' w',(Builtin.append_ #[t,t] ty #[v,u]).run P w=.ok v' w'∧w'.ownsRow base e size v' (m+k) (xs++ys)∧w.grownBy w' v.ownBlock∧(v'.ownBlock=v.ownBlock∨v'.ownBlock=some w.heap.size)∧z0v e size m w w':=by
 obtain ⟨v',w',hrun,ho,hg,hbb⟩:=z3q (P:=P) (ty:=ty) (t:=t) hzs hsz hown hr h1 hb hm hbase;refine ⟨v',w',hrun,ho,hg,hbb,?_⟩;obtain ⟨i,hi',h0,h2,h3⟩:=info_parts hz.h;rcases hown.2 with ⟨rfl,rfl⟩ | ⟨g,cap,cur,rfl,hb0,hcur,hnc,hcm,hcs,htk⟩
 · exact z0v.of_ext hg
 obtain ⟨hl,A,c,rfl,hc,hcm',hn⟩:=hr;have room:∀ ad:Addr,m+k≤cap→(∀ j u,ys[j]?=some u→w.cell? (ad.add j)=some u)→A=some ad→z0v e size m w w':=by
   intro ad hle hnews hA;subst hA;have hfit:m * i.size+ys.length≤cur.size:=(by rw [h2,hl,hcs,← Nat.add_mul];exact Nat.mul_le_mul_right _ hle);have:=run_append_room (P:=P) w t ty e i ht.h hi' g m cap cur hcur ad k c ys (by rw [h2];exact hl) hnews h1 hle hfit;rw [hrun] at this;injection this with _ hw';subst hw';refine z0v.setRow hcur hcs ?_ ?_
   · simp only [List.length_append,List.length_take,List.length_drop,Array.length_toList];omega
   · rw [h2] at hfit ⊢;rw [List.append_assoc,List.take_append_of_le_length (by simp;omega),List.take_take,Nat.min_self]
 rcases Nat.eq_zero_or_pos k with hk | hk
 · subst hk;obtain rfl:ys=[]:=List.eq_nil_of_length_eq_zero (by simpa using hl);rcases A with _ | ad
   · have:=q7z (P:=P) w base t ty e i size ht.h hi' _ m xs hown c;rw [hrun] at this;injection this with _ hw';subst hw';exact z0v.of_ext (Ext.refl _)
   · exact room ad (by omega) (by simp) Y
 · obtain ⟨b,o,rfl,hb1,hb2,hcell⟩:=hn hk;rcases Nat.lt_or_ge cap (m+k) with hlt | hge
   · have hxs:∀ j u,xs[j]?=some u→w.cell? ((⟨g,0,none⟩:Addr).add j)=some u:=fun j u hu=>by
       have:=(Row.of_own hown);obtain ⟨_,A',c',he,_,_,hn'⟩:=this;injection he with e1 _ _;by_cases hm0:0 < m
       · obtain ⟨b',o',hA',_,_,hr'⟩:=hn' hm0;rw [hA'] at e1;injection e1 with e1;have:=hr' j u hu;rw [Addr.add_mid];cases e1
         exact this
       · have h00:=hown.1;obtain rfl:m=0:=(by omega);have:xs=[]:=List.eq_nil_of_length_eq_zero (by simpa using h00);rw [this] at hu;simp at hu
     have:=run_append_grow (P:=P) w t ty e i z ht.h hi' h0 ⟨g,0,none⟩ m cap xs (by rw [h2];exact hown.1) hxs ⟨b,o,none⟩ k c ys (by rw [h2];exact hl) (fun j u hu=>by rw [Addr.add_mid];exact hcell j u hu) hlt (by omega) (growslice_fits (by omega) (by rw [h3];exact hb));rw [hrun] at this;injection this with _ hw';subst hw';exact z0v.of_ext ⟨rfl,rfl,rfl,by simp,fun j hj _=>heap_alloc_old w.drew _ hj⟩
   · exact room _ hge (fun j u hu=>by rw [Addr.add_mid];exact hcell j u hu) Y
section
variable {d:Tmp} {t ty e:TypeId} {pos:String} {af:Array Edge} {x y:Operand}
end
theorem q2n {w w':World} {base e size m:Nat} {v:Value} {xs:List Value} {row:Option Nat} (h:w.ownsRow base e size v m xs) (hg:w.grownBy w' row) (hr:∀ g,v.ownBlock=some g→row ≠ some g):w'.ownsRow base e size v m xs:=by
 refine ⟨h.1,?_⟩;rcases h.2 with hn | ⟨g,cap,cur,hv,hb,hc,rest⟩
 · exact .inl hn
 · have hlt:g < w.heap.size:=(Array.getElem?_eq_some_iff.1 hc).1;exact .inr ⟨g,cap,cur,hv,hb,(hg.block g hlt (fun e=>hr g (by rw [hv];rfl) e.symm)).trans hc,rest⟩
def RA (k0:Nat) (bl:Option Nat) (e size m:Nat):Nat→World→World→Prop:=fun i a b=>Ext a b∨(i=k0∧a.grownBy b bl∧z0v e size m a b)
instance {k0:Nat} {bl:Option Nat} {e size m:Nat}:ExtR (RA k0 bl e size m):=⟨fun _ _ _ h=>.inl h⟩
theorem RA.refl (k0:Nat) (bl:Option Nat) (e size m:Nat) (i:Nat) (w:World):RA k0 bl e size m i w w:=.inl (Ext.refl w)
theorem RA.keeps {k0:Nat} {bl:Option Nat} {e size m i:Nat} {a b:World} (h:RA k0 bl e size m i a b):z0v e size m a b:=h.elim z0v.of_ext fun h=>h.2.2
theorem RA.grown {k0:Nat} {bl:Option Nat} {e size m i:Nat} {a b:World} (h:RA k0 bl e size m i a b):a.grownBy b bl:=h.elim (fun E=>E.row _) fun h=>h.2.1
theorem RA.other {k0:Nat} {bl:Option Nat} {e size m i:Nat} {a b:World} (h:RA k0 bl e size m i a b) (hi:i ≠ k0):Ext a b:=h.elim id fun h=>absurd h.1 hi
structure AA (w0:World) (bl:Option Nat) (base e size:Nat) (v:Value) (m:Nat) (xs:List Value) (w:World):Prop where
 g:w0.grownBy w bl
 o:w.ownsRow base e size v m xs
theorem AA.new {w0:World} {base e size m:Nat} {v:Value} {xs:List Value} (h:w0.ownsRow base e size v m xs):AA w0 v.ownBlock base e size v m xs w0.drew:=⟨(Ext.drew w0).row _,q1g h (Ext.drew w0)⟩
theorem AA.step {w0:World} {k0 base e size m:Nat} {bl:Option Nat} {v:Value} {xs:List Value}:∀ i a b,RA k0 bl e size m i a b→AA w0 bl base e size v m xs a→AA w0 bl base e size v m xs b :=
 fun _ _ _ h ⟨h1,h2⟩=>⟨q0e h1 h.grown (fun _ h=>.inl h),h.keeps _ _ _ _ (Nat.le_refl _) h2⟩
section
variable {R:Nat→World→World→Prop} {A:Nat→World→Prop} {Fin:List Oper→(Rho→Fr)→(Rho→Nat→World→Prop)→Prop} {k:Nat} {E:List Ent} {g:Rho→Fr} {H:Rho→Nat→World→Prop} {d:Tmp} {t:TypeId} {pos:String} {af:Array Edge}
theorem DW_fr {F:Value→World→Prop} {id:FuncId} [TFun P id] {l:List Operand} {vl:Rho→List Value} {tys:Array TypeId} (ha:∀ r,l.map (ev n (g r))=vl r)
   (hc:∀ r w,A k w→(∀ j,td ops k j=true→H r j w)→Calls P id (vl r).toArray w fun e w'=>∃ v,e=.returned v∧R k w w'∧F v w') (hF:∀ i v w w',i ≠ k→td ops k i=false→R i w w'→F v w→F v w')
   (hr:DW R P n ops A Fin rest (k+1) E (fun r=>upd (g r) d (r k)) (fun r j w=>bif Nat.beq j k then F (r k) w else H r j w)):DW R P n ops A Fin (⟨some d,.call ⟨.value (.func id),l.toArray,tys⟩,t,pos,af,none⟩ :: rest) k (.op (fun r w=>F (r k) w) :: E) g H :=
 .op (fun r w hA hH=>⟨q5t Y,q8v (X_fn (ha r)) (hc r w hA hH) fun e w' ⟨v,he,hE,hv⟩=>⟨v,he,hE,by rw [q6b];exact hv⟩⟩) (fun i r w w' h1 h2 hE h=>hF i _ _ _ h1 h2 hE h) hr
end
end Go.Proofs.K
namespace Go.Proofs.K
open Go.RowKit Go.Maps Go.MapKept
variable {P:Program} {n:NN} {Q:Exit→Fr→World→Prop} {f:Fr} {w:World} {ops:Array Oper} {rest:List Oper}
theorem z3m {x:Nat} (hx:x < 9223372036854775808):(Lit.int .i64 (x:Int)).wf=true:=wf_nat .i64 9223372036854775808 (by decide) hx
section
variable {d:Tmp} {t ty kt e:TypeId} {pos:String} {af:Array Edge} {x y z:Operand}
end
def RN (k0:Nat) (w0:World) (T:TypeId) (z l:List Value):Nat→World→World→Prop:=fun i a b=>Ext a b∨(i=k0∧∃ q,w0.heap.size≤q∧(Blk a q T z∨Blk a q T l)∧a.grownBy b (some q)∧Blk b q T l)
section
variable {k0:Nat} {w0:World} {T:TypeId} {z l:List Value}
instance:ExtR (RN k0 w0 T z l):=⟨fun _ _ _ h=>.inl h⟩
theorem RN.refl (i:Nat) (w:World):RN k0 w0 T z l i w w:=.inl (Ext.refl w)
theorem RN.other {i:Nat} {a b:World} (h:RN k0 w0 T z l i a b) (hi:i ≠ k0):Ext a b:=h.elim id fun h=>absurd h.1 hi
theorem RN.step:∀ i a b,RN k0 w0 T z l i a b→Ext w0 a→Ext w0 b:=fun _ _ _ h E=>h.elim (fun e=>E.trans e) fun ⟨_,q,hq,_,hg,_⟩=>E.then hg (fun g hg=>by cases hg;exact hq)
def NewZ (w0:World) (T:TypeId) (z l:List Value) (u:Value) (w:World):Prop:=∃ q,u=.pointer (some ⟨q,0,none⟩)∧w0.heap.size≤q∧(Blk w q T z∨Blk w q T l)
theorem NewZ.step {i:Nat} {u:Value} {a b:World} (h:RN k0 w0 T z l i a b) (hn:NewZ w0 T z l u a):NewZ w0 T z l u b:=by
 obtain ⟨q,h1,h2,h3⟩:=hn;refine ⟨q,h1,h2,?_⟩;rcases h with e | ⟨_,q',hq,hz,hg,hb⟩
 · exact h3.imp (fun B=>B.ext e) (fun B=>B.ext e)
 · by_cases hqq:q=q'
   · subst hqq;exact .inr hb
   · exact h3.imp (fun B=>B.grown hg (fun e=>hqq (by injection e with e;exact e.symm))) (fun B=>B.grown hg (fun e=>hqq (by injection e with e;exact e.symm)))
variable {Fin:List Oper→(Rho→Fr)→(Rho→Nat→World→Prop)→Prop} {k:Nat} {E:List Ent} {g:Rho→Fr} {H:Rho→Nat→World→Prop} {d:Tmp} {t ty:TypeId} {pos:String} {af:Array Edge} {x y:Operand}
theorem alloc_new {w:World} {z':List Value} [hz:TZero P ty z'] {f:Fr} (h0:w0.heap.size≤w.heap.size):∃ v w',X P n ⟨some d,.alloc ty,t,pos,af,none⟩ f w=.ok (.value v) w'∧Ext w w'∧NewF w0 ty z' v w':=by
 obtain ⟨v,hv,hc⟩:=hz.h;cases hq:P.info? ty with
 | none=>simp [hq] at hv
 | some i =>
   have h0':i.zero=some v:=(by simpa [hq] using hv);haveI:TInfo P ty i.size i.bytes v:=⟨by simp [hq,h0']⟩;exact ⟨_,_,X_alloc,q1k _ _,w.heap.size,rfl,h0,by rw [hc];exact Blk.new _ _ _⟩
theorem DW_allocZ [hz:TZero P T z]
   (hr:DW (RN k0 w0 T z l) P n ops (fun _=>Ext w0) Fin rest (k+1) E (fun r=>upd (g r) d (r k)) (fun r j w=>bif Nat.beq j k then NewZ w0 T z l (r k) w else H r j w)) :
   DW (RN k0 w0 T z l) P n ops (fun _=>Ext w0) Fin (⟨some d,.alloc T,t,pos,af,none⟩ :: rest) k (.op (fun r w=>NewZ w0 T z l (r k) w) :: E) g H :=
 DW_d (F:=fun _ u w=>NewZ w0 T z l u w) (fun r w hA hH=>by
   obtain ⟨v,w',h1,h2,q,h3,h4,h5⟩:=alloc_new (P:=P) (n:=n) (d:=d) (t:=t) (pos:=pos) (af:=af) (ty:=T) (z':=z) (f:=g r) hA.size
   exact ⟨v,w',h1,h2,q,h3,h4,.inl h5⟩)
   (fun _ _ u w w' _ _ E h=>NewZ.step E h) (fun _ _=>rfl) hr
theorem DW_storeN {size kx:Nat} [TAgg P ty size] (hx:∀ r,ev n (g r) x=r kx) (hy:∀ r,ev n (g r) y=.agg l.toArray) (hzl:z.length=size) (hl:l.length=size) (h1:∀ v∈l,v.oneCell'=true) (hkx:kx ≠ k0)
   (hz:∀ r w,Ext w0 w→(∀ j,td ops k0 j=true→H r j w)→NewZ w0 T z l (r kx) w)
   (hr:DW (RN k0 w0 T z l) P n ops (fun _=>Ext w0) Fin rest (k0+1) E g (fun r j w=>bif Nat.beq j k0 then (∃ q,r kx=.pointer (some ⟨q,0,none⟩)∧w0.heap.size≤q∧Blk w q T l) else H r j w)) :
   DW (RN k0 w0 T z l) P n ops (fun _=>Ext w0) Fin (⟨none,.store ty x y,t,pos,af,none⟩ :: rest) k0 (.op (fun r w=>∃ q,r kx=.pointer (some ⟨q,0,none⟩)∧w0.heap.size≤q∧Blk w q T l) :: E) g H:=by
 refine .op (fun r w hA hH=>⟨rfl,?_⟩) (fun i r w w' hi _ hE ⟨q,h1,h2,h3⟩=>⟨q,h1,h2,h3.ext (hE.other hi)⟩) hr;obtain ⟨q,e,hq,hB⟩:=hz r w hA hH;have key:∀ c:List Value,c.length=size→Blk w q T c→(Blk w q T z∨Blk w q T l)→Run P n ⟨none,.store ty x y,t,pos,af,none⟩ (g r) w fun v w'=>RN k0 w0 T z l k0 w w'∧∃ q,rset r k0 v kx=.pointer (some ⟨q,0,none⟩)∧w0.heap.size≤q∧Blk w' q T l:=by
   intro c hc B hB;have hX:=q9w (P:=P) (n:=n) (f:=g r) (w:=w) (d:=none) (t:=t) (pos:=pos) (af:=af) (g:=none) (ty:=ty) ((hx r).trans e) (hy r) hl h1 B (o:=0) (by omega);have hcs:c.take 0++l++c.drop (0+size)=l:=(by rw [List.drop_eq_nil_of_le (by omega)];simp);rw [hcs] at hX;have B':=B.setRow l;exact q8u hX ⟨.inr ⟨rfl,q,hq,hB,q3v _ _ _,B'⟩,q,by rw [z0h _ _ hkx];exact e,hq,B'⟩
 exact hB.elim (fun B=>key z hzl B (.inl B)) (fun B=>key l hl B (.inr B))
end
end Go.Proofs.K
