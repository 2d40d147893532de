/- KI, KW, KM, KN, KX, KY, T, KU, VA, VB, N1, VC, F, VD, VE, VF, VG, VH, VJ, VI, VK. -/
import Derived.Test.YtlcnkadkbcoadaaGreatDoorQ1
import Derived.Test.YtlcnkadkbcoadaaGreatDoorProg
set_option maxRecDepth 100000
set_option maxHeartbeats 16000000
namespace Go.Proofs.K
open Go.RowKit
variable {P:Program} {n:NN} {Q:Exit→Fr→World→Prop} {f:Fr} {w:World} {ops:Array Oper} {rest:List Oper}
theorem L_onZ {o:Oper} (hw:q4a n ops f o=true) (h:RunZ P n o f w (fun c w'=>Q (.panic c) f w') fun v w'=>L P n ops Q rest (updo f o.dst v) w'):L P n ops Q (o :: rest) f w :=
 ⟨fun _=>h,fun hw'=>by rw [hw] at hw';cases hw'⟩
theorem q1n {d:Option Tmp} {op:Op} {t:TypeId} {pos:String} {af:Array Edge} {j:Nat} {want:Bool} {t':Tmp} (hd:(ops[j]?).bind (·.dst)=some t') (hn:Nat.blt t' n.k=true) (hv:f t'=.bool want)
   (h:L P n ops Q (⟨d,op,t,pos,af,none⟩ :: rest) f w):L P n ops Q (⟨d,op,t,pos,af,some (j,want)⟩ :: rest) f w :=
 L_onZ ((q7e Y hd hn hv).trans (by cases want <;> rfl)) (h.1 (q5t Y))
section
theorem wants_un {o:Oper} {j:Nat} {want:Bool} {t':Tmp} (hg:o.guard=some (j,want)) (hd:(ops[j]?).bind (·.dst)=some t') (hn:Nat.blt t' n.k=true) (hv:f t'=undef):q4a n ops f o=false:=by
 rw [z1v hg];have hlt:t' < n.k:=by rwa [Nat.blt_eq] at hn
 have:yielded ops (arr n f) j=none:=by
   unfold yielded;rw [hd];simp only [Option.bind_some,arr_get?,hlt,if_true,hv];rfl
 rw [this];rfl
theorem Lo3 {d:Option Tmp} {op:Op} {t:TypeId} {pos:String} {af:Array Edge} {j:Nat} {want:Bool} {t':Tmp} (hd:(ops[j]?).bind (·.dst)=some t') (hn:Nat.blt t' n.k=true) (hv:f t'=undef) (h:L P n ops Q rest (updo f d undef) w) :
   L P n ops Q (⟨d,op,t,pos,af,some (j,want)⟩ :: rest) f w:=Lo (wants_un Y hd hn hv) h
variable {d:Option Tmp} {t ty ty':TypeId} {pos:String} {af:Array Edge} {g:Option (Nat × Bool)} {x y:Operand}
theorem X_neqK [h:TEq P ty] {D D':Nat} {xs ys:List Value} {la lb:List Lit} (hx:ev n f x=.agg xs.toArray) (hy:ev n f y=.agg ys.toArray) (lx:xs.length=P.cellsOf ty) (ly:ys.length=P.cellsOf ty)
   (kx:P.keyLits D ty xs=some la) (ky:P.keyLits D' ty ys=some lb) {b:Bool} (hb:b=true↔la ≠ lb) :
   X P n ⟨d,.binOp .neq ty x y ty,t,pos,af,g⟩ f w=.ok (.value (.bool b)) w:=by
 have hf:∀ zs:List Value,zs.length=P.cellsOf ty→(Value.agg zs.toArray).formed P ty=true:=by
   intro zs hz;rcases h.s with ⟨fs,e⟩ | ⟨m,e',e⟩ <;> simp [Value.formed,e,hz]
 obtain ⟨r,hr,hiff⟩:=run_equalIn_deep 9996 4 ty h.k w D D' (.agg xs.toArray) (.agg ys.toArray) la lb (hf _ lx) (hf _ ly) (by simpa [Value.cells] using kx) (by simpa [Value.cells] using ky);have he:(!r)=b:=by
   revert hb hiff;cases r <;> cases b <;> simp
 have hg:=run_eqGuard_agg (P:=P) (w:=w) .neq ty x y xs.toArray ys.toArray h.g;have hs:=run_neq_struct (P:=P) (w:=w) ty xs.toArray ys.toArray;rw [hr] at hs;simp only [X,execOp,hx,hy];simp [hg,hs,Result.andThen,he]
end
section
variable {R:Nat→World→World→Prop} {A:Nat→World→Prop} {Fin:List Oper→(Rho→Fr)→(Rho→Nat→World→Prop)→Prop} {k:Nat} {E:List Ent} {g:Rho→Fr} {H:Rho→Nat→World→Prop} {d:Tmp} {op:Op} {t:TypeId} {pos:String} {af:Array Edge}
theorem q1a [ExtR R] {V:Rho→Value} {j:Nat} {want:Bool} {t':Tmp} (hd:(ops[j]?).bind (·.dst)=some t') (hn:Nat.blt t' n.k=true) (hv:∀ r,g r t'=.bool want)
   (hX:∀ r w,A k w→(∀ j,td ops k j=true→H r j w)→X P n ⟨some d,op,t,pos,af,none⟩ (g r) w=.ok (.value (V r)) w)
   (hr:DW R P n ops A Fin rest (k+1) E (fun r=>upd (g r) d (V r)) H):DW R P n ops A Fin (⟨some d,op,t,pos,af,some (j,want)⟩ :: rest) k (.st V :: E) g H :=
 DW_on (fun r=>(q7e Y hd hn (hv r)).trans (by cases want <;> rfl)) hX hr
theorem q0y [ExtR R] {o:Option Tmp} {j:Nat} {want b:Bool} {t':Tmp} (hd:(ops[j]?).bind (·.dst)=some t') (hn:Nat.blt t' n.k=true) (hv:∀ r,g r t'=.bool b) (hb:(b == want)=false)
   (hr:DW R P n ops A Fin rest (k+1) E (fun r=>updo (g r) o undef) H):DW R P n ops A Fin (⟨o,op,t,pos,af,some (j,want)⟩ :: rest) k (.st (fun _=>undef) :: E) g H :=
 DW_off (fun r=>by rw [q7e Y hd hn (hv r)];exact hb) hr
theorem DW_off3 [ExtR R] {o:Option Tmp} {j:Nat} {want:Bool} {t':Tmp} (hd:(ops[j]?).bind (·.dst)=some t') (hn:Nat.blt t' n.k=true) (hv:∀ r,g r t'=undef)
   (hr:DW R P n ops A Fin rest (k+1) E (fun r=>updo (g r) o undef) H):DW R P n ops A Fin (⟨o,op,t,pos,af,some (j,want)⟩ :: rest) k (.st (fun _=>undef) :: E) g H :=
 DW_off (fun r=>wants_un Y hd hn (hv r)) hr
theorem z4g [ExtR R] {V:Rho→Value} {id:FuncId} [TFun P id] {l:List Operand} {vl:Rho→List Value} {tys:Array TypeId} {j:Nat} {want:Bool} {t':Tmp} (hd:(ops[j]?).bind (·.dst)=some t') (hn:Nat.blt t' n.k=true) (hv:∀ r,g r t'=.bool want)
   (ha:∀ r,l.map (ev n (g r))=vl r) (hc:∀ r w,A k w→(∀ j,td ops k j=true→H r j w)→Calls P id (vl r).toArray w fun e w'=>e=.returned (V r)∧Ext w w')
   (hr:DW R P n ops A Fin rest (k+1) E (fun r=>upd (g r) d (V r)) H):DW R P n ops A Fin (⟨some d,.call ⟨.value (.func id),l.toArray,tys⟩,t,pos,af,some (j,want)⟩ :: rest) k (.st V :: E) g H :=
 q6l (fun r=>(q7e Y hd hn (hv r)).trans (by cases want <;> rfl)) ha hc hr
theorem d_ng {d:Option Tmp} (h:DW R P n ops A Fin (⟨d,op,t,pos,af,none⟩ :: rest) k E g H):DW R P n ops A Fin (⟨d,op,t,pos,af,none⟩ :: rest) k E g H:=h
theorem d_gd {d:Option Tmp} {gd:Nat × Bool} (h:DW R P n ops A Fin (⟨d,op,t,pos,af,some gd⟩ :: rest) k E g H):DW R P n ops A Fin (⟨d,op,t,pos,af,some gd⟩ :: rest) k E g H:=h
end
section
variable {d:Option Tmp} {t ty:TypeId} {pos:String} {af:Array Edge} {g:Option (Nat × Bool)} {x:Operand}
end
section
variable {d:Option Tmp} {t ty:TypeId} {pos:String} {af:Array Edge} {g:Option (Nat × Bool)} {x:Operand}
end
end Go.Proofs.K
namespace Go.Proofs.K
open Go.RowKit Go.Shelf
variable {P:Program} {n:NN} {Q:Exit→Fr→World→Prop} {f:Fr} {w:World} {ops:Array Oper} {rest:List Oper}
theorem Row.tightN {size:Nat} (hs:0 < size) {w:World} {lo hi m:Nat} {v:Value} {xs:List Value} (h:Row w lo hi size v m xs):Row w lo w.heap.size size v m xs:=by
 obtain ⟨hl,A,c,he,hc,hcm,hn⟩:=h;refine ⟨hl,A,c,he,hc,hcm,fun h0=>?_⟩;obtain ⟨q,o,hA,h1,h2,h3⟩:=hn h0;refine ⟨q,o,hA,h1,?_,h3⟩;have hx:0 < xs.length:=by rw [hl];exact Nat.mul_pos h0 hs
 obtain ⟨c,t,fz,hcc⟩:=q4i (h3 0 xs[0] (List.getElem?_eq_getElem hx));exact (Array.getElem?_eq_some_iff.1 hcc).1
def updL (f:Fr):List Tmp→List Value→Fr
 | p :: ps,v :: vs=>updL (upd f p v) ps vs
 | _,_=>f
theorem arr_updL' {k:Nat} {ro:Option Nat}:∀ (ps:List Tmp) (vs:List Value) (f:Fr),(ps.zip vs).foldl (fun (t:Array Value) (x:Tmp × Value)=>t.setIfInBounds x.1 x.2) (arr ⟨k,[],none⟩ f)=arr ⟨k,[],ro⟩ (updL f ps vs)
 | [],_,_=>rfl
 | _ :: _,[],_=>rfl
 | p :: ps,v :: vs,f=>by
   have:=arr_updL' (k:=k) (ro:=ro) ps vs (upd f p v);rw [← z2u] at this;exact this
theorem arr_updL {k:Nat} {ro:Option Nat} (ps:List Tmp) (vs:List Value) (f:Fr):(ps.toArray.zip vs.toArray).foldl (fun (t:Array Value) (q,a)=>t.setIfInBounds q a) (arr ⟨k,[],none⟩ f)=arr ⟨k,[],ro⟩ (updL f ps vs):=by
 rw [List.zip_toArray,← arr_updL' ps vs f];exact List.foldl_toArray ..
def IterL (P:Program) (gf:FuncId) (lb:Array Value) (w:World) (Pre:Nat→List Value→World→Prop) (Kp It Ix:World→World→Prop) (Fin:Nat→World→Prop):Prop :=
 ∀ (l:Nat) (J:Nat→World→Prop) (Jx:World→Prop) (w1:World),Ext w w1 →
   (∀ i a b,J i a→It a b→J i b)→(∀ a b,Jx a→Ix a b→Jx b) →
   (∀ i v a,J i a→Pre i v a→YieldAt Fence.wide 8 P l v.toArray a fun e b=>(e=.returned (.bool true)∧J (i+1) b∧Kp a b)∨(e=.returned (.bool false)∧Jx b)) →
   J 0 w1→Calls P gf (#[q5c l]++lb) w1 fun e b=>(∃ v,e=.returned v)∧((∃ i,Fin i b∧J i b)∨Jx b)
section
variable {d:Tmp} {t ty e:TypeId} {pos:String} {af:Array Edge} {x:Operand}
theorem L_litA {z l:List Value} [TSlice P ty e] [TZero P e z] (hx:ev n f x=.agg l.toArray) (hl:l.length=z.length) (hz:Nat.ble (1 * z.length) 65536=true)
   (h:∀ u w',Row w' w.heap.size (w.heap.size+1) z.length u 1 l→Ext w w'→w'.heap.size=w.heap.size+1→L P n ops Q rest (upd f d u) w') :
   L P n ops Q (⟨some d,.buildSlice ty 1 #[(0,x)],t,pos,af,none⟩ :: rest) f w :=
 Ls (z0a (r:=[(0,x)]) (zs':=[l]) (cs:=l) (Parts.cons (c:=l) (z:=z) hx Y Y hl (Parts.nil _)) hz (by simp)) (h _ _ (Row.lit w e z.length 1 l (by omega) (by unfold maxLen;omega)) (q1k _ _) (by simp))
end
end Go.Proofs.K
namespace Go.Proofs.K
open Go.RowKit Go.Maps Go.MapKept
variable {P:Program} {n:NN} {Q:Exit→Fr→World→Prop} {f:Fr} {w:World} {ops:Array Oper} {rest:List Oper}
def heldR:Value→Option (DataW Value × List MemPlace):=fun v=>some (.held v,[])
def MapI (P:Program) (kt:TypeId) (w:World) (b m:Nat) (M:Int→Option Value):Prop :=
 ∃ D,w.ownsMap (H:=Value) P kt heldR b m D∧∀ x:Int,Maps.has D (.int .i64 x)=(M x).isSome∧∀ z,D.atKey (.int .i64 x) (.held z)=.held ((M x).getD z)
theorem MapI.kept {kt b m:Nat} {M:Int→Option Value} {w w':World} {row:Option Nat} (h:MapI P kt w b m M) (hg:w.grownBy w' row) (hne:some b ≠ row):MapI P kt w' b m M:=by
 obtain ⟨D,h2,h3⟩:=h;exact ⟨D,h2.kept hg hne,h3⟩
theorem MapI.ext {kt b m:Nat} {M:Int→Option Value} {w w':World} (h:MapI P kt w b m M) (E:Ext w w'):MapI P kt w' b m M:=h.kept E (by simp)
theorem MapI.lt {kt b m:Nat} {M:Int→Option Value} {w:World} (h:MapI P kt w b m M):b < w.heap.size:=by
 obtain ⟨D,h2,h3⟩:=h;exact h2.lt
section
variable {d:Tmp} {t ty kt e:TypeId} {pos:String} {af:Array Edge} {x y z:Operand}
theorem L_makeMap (h:∀ w',MapI P kt w' w.heap.size 0 (fun _=>none)→Ext w w'→w'.heap.size=w.heap.size+1→L P n ops Q rest (upd f d (.map (some w.heap.size))) w') :
   L P n ops Q (⟨some d,.makeMap ty none,t,pos,af,none⟩ :: rest) f w:=by
 refine Ls (v:=.map (some w.heap.size)) (w':=w.alloc (.map #[] 0)) ?_ (h _ ⟨.map [],World.ownsMap_made w P kt heldR,fun x=>⟨by simp [has_eq],fun z=>by exact atKey_of_not_has (by simp [has_eq]) _⟩⟩ (q1k _ _) (by simp));simp [X,execOp,run_makeMap]
theorem MapI.look {b m:Nat} {M:Int→Option Value} {a:Int} {zv:Value} [hm:TMap P ty kt e] [hk:TInt P kt .i64] (hz:(P.info? e).bind (·.zero)=some zv) (hs:MapI P kt w b m M) (ha:(Lit.int .i64 a).wf=true) :
   (Instr.lookup ty (.map (some b)) (.int .i64 a) true).run P w=.ok (.tuple #[(M a).getD zv,.bool (M a).isSome]) w∧(Instr.lookup ty (.map (some b)) (.int .i64 a) false).run P w=.ok ((M a).getD zv) w:=by
 obtain ⟨D,h2,h3⟩:=hs;have hzv:(zeroValue e).run P w=.ok zv w:=by
   cases hq:P.info? e with
   | none=>rw [hq] at hz;cases hz
   | some i=>rw [hq] at hz;simp at hz;simp [zeroValue,typeInfo,hq,hz]
 constructor
 · obtain ⟨v,ps,hrun,hv⟩:=h2.look_ok (int_keyed hk.h) hm.h hzv (zd:=.held zv) (zp:=[]) rfl (keyOf_int_mk hk.h ha);rw [(h3 a).2] at hv;injection hv with hv;injection hv with hv _;injection hv with hv;rw [(h3 a).1,hv] at hrun;exact hrun
 · obtain ⟨v,ps,hrun,hv⟩:=h2.lookup (int_keyed hk.h) hm.h hzv (zd:=.held zv) (zp:=[]) rfl (keyOf_int_mk hk.h ha);rw [(h3 a).2] at hv;injection hv with hv;injection hv with hv _;injection hv with hv;rw [hv] at hrun;exact hrun
theorem X_look2 {dd:Option Tmp} {g:Option (Nat × Bool)} [hm:TMap P ty kt e] [hk:TInt P kt .i64] {zv v:Value} {q:Bool} {b m:Nat} {M:Int→Option Value} {a:Int} (hz:(P.info? e).bind (·.zero)=some zv) (hx:ev n f x=.map (some b)) (hy:ev n f y=.int .i64 a) (hs:MapI P kt w b m M)
   (ha:(Lit.int .i64 a).wf=true) (hv:(M a).getD zv=v) (hq:(M a).isSome=q) :
   X P n ⟨dd,.lookup ty x y true,t,pos,af,g⟩ f w=.ok (.value (.tuple [v,.bool q].toArray)) w:=by
 have h:=(hs.look (ty:=ty) (e:=e) hz ha).1;rw [hv,hq] at h;simp [X,execOp,hx,hy,h,Result.andThen]
theorem z3c {dd:Option Tmp} {g:Option (Nat × Bool)} [hm:TMap P ty kt e] [hk:TInt P kt .i64] {zv v:Value} {b m:Nat} {M:Int→Option Value} {a:Int} (hz:(P.info? e).bind (·.zero)=some zv) (hx:ev n f x=.map (some b)) (hy:ev n f y=.int .i64 a) (hs:MapI P kt w b m M)
   (ha:(Lit.int .i64 a).wf=true) (hv:(M a).getD zv=v) :
   X P n ⟨dd,.lookup ty x y false,t,pos,af,g⟩ f w=.ok (.value v) w:=by
 have h:=(hs.look (ty:=ty) (e:=e) hz ha).2;rw [hv] at h;simp [X,execOp,hx,hy,h,Result.andThen]
theorem q4d [hm:TMap P ty kt e] [hk:TInt P kt .i64] {b m:Nat} {M:Int→Option Value} {a:Int} {v:Value} (hx:ev n f x=.map (some b)) (hy:ev n f y=.int .i64 a) (hv:ev n f z=v) (hs:MapI P kt w b m M) (ha:(Lit.int .i64 a).wf=true) (hl:m < maxLen)
   (h:∀ w',MapI P kt w' b (m+1) (fun i=>if i=a then some v else M i)→w.grownBy w' (some b)→w'.heap.size=w.heap.size→L P n ops Q rest f w') :
   L P n ops Q (⟨none,.mapUpdate ty x y z,t,pos,af,none⟩ :: rest) f w:=by
 obtain ⟨D,h2,h3⟩:=hs;have hD:IsMap D:=h2.isMap;obtain ⟨w',hrun,h4,h5⟩:=h2.store (int_keyed hk.h) hm.h hl (keyOf_int_mk hk.h ha) (d:=.held v) (ps:=[]) (val:=v) rfl;refine Ln (w':=w') ?_ (h w' ⟨_,h4,fun i=>?_⟩ h5.grown ?_)
 · simp [X,execOp,hx,hy,hv,hrun,Result.andThen]
 · by_cases hya:i=a
   · subst hya;simp only [if_true];exact ⟨has_put_same hD (by exact trivial) _,fun z=>atKey_put_same hD (by exact trivial) _ _⟩
   · simp only [hya,if_false];have hne:Lit.int .i64 i ≠ Lit.int .i64 a:=(by intro e;injection e with _ e;exact hya e);exact ⟨(has_put_other hne _).trans (h3 i).1,fun z=>(atKey_put_other hne _ _).trans ((h3 i).2 z)⟩
 · obtain ⟨es,clock,es',clock',hb,rfl⟩:=h5;simp [Go.ChangeMaps.setBlock]
theorem z0d {g:Option (Nat × Bool)} {dd:Option Tmp} (h:L P n ops Q (⟨dd,.mapUpdate ty x y z,t,pos,af,g⟩ :: rest) f w):L P n ops Q (⟨dd,.insert ty x y z,t,pos,af,g⟩ :: rest) f w:=h
end
end Go.Proofs.K
namespace Go.Proofs.K
open Go.RowKit
variable {P:Program} {n:NN} {Q:Exit→Fr→World→Prop} {f:Fr} {w:World} {ops:Array Oper} {rest:List Oper}
def RG (k0 g:Nat):Nat→World→World→Prop:=fun i a b=>Ext a b∨(i=k0∧a.grownBy b (some g))
instance {k0 g:Nat}:ExtR (RG k0 g):=⟨fun _ _ _ h=>.inl h⟩
theorem RG.grown {k0 g i:Nat} {a b:World} (h:RG k0 g i a b):a.grownBy b (some g):=h.elim (fun e=>e.row _) (fun h=>h.2)
theorem RG.other {k0 g i:Nat} {a b:World} (h:RG k0 g i a b) (hi:i ≠ k0):Ext a b:=h.elim id fun h=>absurd h.1 hi
structure AG (ops:Array Oper) (k0 g:Nat) (Pre:World→Prop) (w0:World) (k:Nat) (w:World):Prop where
 g:w0.grownBy w (some g)
 pre:k=k0∨td ops k0 k=true→Pre w
theorem z3f {id:Nat} [TMixed P] {l:List Oper} (k0 g:Nat) (Pre:World→Prop) (m:Nat) (hok:dagOk l.toArray m=true) (h0:Pre w.drew) (hPre:∀ a b,Ext a b→Pre a→Pre b)
   {E:List Ent} {T:List Oper} {G:Rho→Fr} {HF:Rho→Nat→World→Prop}
   (hw:DW (RG k0 g) P n l.toArray (AG l.toArray k0 g Pre w) (fun t g' H'=>t=T∧g'=G∧H'=HF) l 0 E (fun _=>f) (fun _ _ _=>True)) (hm:E.length=m) (hins:q7t l.toArray E E 0)
   (hfin:∀ r w',w.grownBy w' (some g)→(∀ j,HF r j w')→L P n l.toArray Q T (G r) w'):W P n (.region id l.toArray true) Q f w:=by
 refine W_dagL m (fun L w'=>w.grownBy w' (some g)∧(L k0=false→Pre w')) (AG l.toArray k0 g Pre w) (fun w'=>w.grownBy w' (some g)) hm hok hins (fun _ w=>.inl (Ext.refl w)) ?_ ?_ ?_ ?_ (hw.imp fun t g' H' ⟨e1,e2,e3⟩=>by subst e1;subst e2;subst e3;exact hfin)
 · exact fun L hL=>⟨(Ext.drew w).row _,fun _=>h0⟩
 · rintro L k w' hk hLk hin hout ⟨hg,h2⟩;refine ⟨hg,fun h=>?_⟩;rcases h with rfl | h
   · exact h2 hLk
   · exact h2 (hout _ h)
 · rintro L k w' w'' hk hLk hin hout hr ⟨hg,h2⟩;refine ⟨q0e hg hr.grown (fun g h=>.inl h),fun h=>?_⟩;unfold Done1 at h;by_cases hkk:k0=k
   · rw [if_pos hkk] at h;cases h
   · rw [if_neg hkk] at h;exact hPre _ _ (hr.other fun e=>hkk e.symm) (h2 h)
 · rintro L w' hall ⟨hg,_⟩;exact hg
section
variable {R:Nat→World→World→Prop} {A:Nat→World→Prop} {Fin:List Oper→(Rho→Fr)→(Rho→Nat→World→Prop)→Prop} {k:Nat} {E:List Ent} {g:Rho→Fr} {H:Rho→Nat→World→Prop} {d:Tmp} {t:TypeId} {pos:String} {af:Array Edge}
theorem DW_fr2 {F:Value→World→Prop} {id:FuncId} [TFun P id] {l:List Operand} {vl:Rho→List Value} {tys:Array TypeId} {j:Nat} {want:Bool} {t':Tmp} (hd:(ops[j]?).bind (·.dst)=some t') (hn:Nat.blt t' n.k=true) (hv:∀ r,g r t'=.bool want) (ha:∀ r,l.map (ev n (g r))=vl r)
   (hc:∀ r w,A k w→(∀ j,td ops k j=true→H r j w)→Calls P id (vl r).toArray w fun e w'=>∃ v,e=.returned v∧R k w w'∧F v w') (hF:∀ i v w w',i ≠ k→td ops k i=false→R i w w'→F v w→F v w')
   (hr:DW R P n ops A Fin rest (k+1) E (fun r=>upd (g r) d (r k)) (fun r j w=>bif Nat.beq j k then F (r k) w else H r j w)):DW R P n ops A Fin (⟨some d,.call ⟨.value (.func id),l.toArray,tys⟩,t,pos,af,some (j,want)⟩ :: rest) k (.op (fun r w=>F (r k) w) :: E) g H :=
 .op (fun r w hA hH=>⟨(q7e Y hd hn (hv r)).trans (by cases want <;> rfl),q8v (o:=⟨some d,.call ⟨.value (.func id),l.toArray,tys⟩,t,pos,af,some (j,want)⟩) (X_fn (ha r)) (hc r w hA hH) fun e w' ⟨v,he,hE,hv⟩=>⟨v,he,hE,by rw [q6b];exact hv⟩⟩) (fun i r w w' h1 h2 hE h=>hF i _ _ _ h1 h2 hE h) hr
end
end Go.Proofs.K
namespace Go.Proofs.K
open Go.RowKit Go.Shelf
variable {P:Program} {n:NN} {Q:Exit→Fr→World→Prop} {f:Fr} {w:World} {ops:Array Oper} {rest:List Oper}
structure Mut (S:Nat→Prop) (a b:World):Prop where
 os:b.os=a.os
 tape:b.tape=a.tape
 output:b.output=a.output
 size:a.heap.size≤b.heap.size
 same:∀ k (o:Obj),a.heap[k]?=some o→(o.isCells=false∨¬ S k)→b.heap[k]?=some o
structure Calm (B:Nat) (a b:World):Prop where
 os:b.os=a.os
 tape:b.tape=a.tape
 output:b.output=a.output
 size:a.heap.size≤b.heap.size
 same:∀ k (o:Obj),a.heap[k]?=some o→(o.isCells=true∨k < B)→b.heap[k]?=some o
structure KeepS (S:Nat→Prop) (a b:World):Prop where
 size:a.heap.size≤b.heap.size
 same:∀ k (o:Obj),a.heap[k]?=some o→o.isCells=true→¬ S k→b.heap[k]?=some o
variable {S S':Nat→Prop} {a b c:World} {B:Nat}
theorem q2b {k:Nat} {o:Obj} (h:a.heap[k]?=some o):k < a.heap.size:=(Array.getElem?_eq_some_iff.1 h).1
theorem Ext.heap {k:Nat} {o:Obj} (E:Ext a b) (h:a.heap[k]?=some o):b.heap[k]?=some o:=(E.block k (q2b h) (by simp)).trans h
theorem Mut.of_ext (E:Ext a b):Mut S a b:=⟨E.os,E.tape,E.output,E.size,fun _ _ h _=>E.heap h⟩
theorem Mut.refl (a:World):Mut S a a:=Mut.of_ext (Ext.refl a)
theorem Mut.trans (h:Mut S a b) (k:Mut S b c):Mut S a c:=⟨k.os.trans h.os,k.tape.trans h.tape,k.output.trans h.output,Nat.le_trans h.size k.size,fun j o hj ho=>k.same j o (h.same j o hj ho) ho⟩
theorem Mut.ext_ (h:Mut S a b) (E:Ext b c):Mut S a c:=h.trans (Mut.of_ext E)
theorem Mut.of_grown {row:Option Nat} (g:a.grownBy b row) (h:∀ q,row=some q→S q∧∃ o:Obj,a.heap[q]?=some o∧o.isCells=true):Mut S a b :=
 ⟨g.os,g.tape,g.output,g.size,fun k o hk ho=>(g.block k (q2b hk) (fun e=>by
   obtain ⟨hs,o',ho',hc⟩:=h k e.symm
   rw [hk] at ho'
   cases ho'
   rcases ho with hn | hn
   · rw [hc] at hn;cases hn
   · exact hn hs)).trans hk⟩
theorem Mut.store {g:Nat} {T:TypeId} {cs:List Value} (hB:Blk a g T cs) (hg:a.grownBy b (some g)) (hS:S g):Mut S a b :=
 Mut.of_grown hg fun q e=>by cases e;exact ⟨hS,_,hB,rfl⟩
theorem own_cells {base e size m:Nat} {v:Value} {xs:List Value} (ho:a.ownsRow base e size v m xs):∀ q,v.ownBlock=some q→∃ o:Obj,a.heap[q]?=some o∧o.isCells=true:=by
 intro q hq;rcases ho.2 with ⟨rfl,_⟩ | ⟨g,cap,cur,rfl,_,hg,_⟩
 · cases hq
 · cases hq;exact ⟨_,hg,rfl⟩
theorem Mut.app {base e size m:Nat} {v:Value} {xs:List Value} (ho:a.ownsRow base e size v m xs) (hg:a.grownBy b v.ownBlock) (hS:∀ q,v.ownBlock=some q→S q):Mut S a b :=
 Mut.of_grown hg fun q e=>⟨hS q e,own_cells ho q e⟩
theorem Mut.toExt {w0:World} (h:Mut S a b) (E:Ext w0 a) (hS:∀ k,S k→w0.heap.size≤k):Ext w0 b :=
 ⟨h.os.trans E.os,h.tape.trans E.tape,h.output.trans E.output,Nat.le_trans E.size h.size,fun k hk hn=>by
   have h1:=E.block k hk hn
   have h2:a.heap[k]?=some w0.heap[k]:=h1.trans (Array.getElem?_eq_getElem hk)
   rw [h.same k _ h2 (.inr fun hs=>by have:=hS k hs;omega),← h2,h1]⟩
theorem Mut.heap {k:Nat} {o:Obj} (h:Mut S a b) (hk:a.heap[k]?=some o) (ho:o.isCells=false):b.heap[k]?=some o:=h.same _ _ hk (.inl ho)
theorem Mut.keepS (h:Mut S a b):KeepS S a b:=⟨h.size,fun k o hk _ hs=>h.same k o hk (.inr hs)⟩
theorem KeepS.cell {p:Addr} {v:Value} (h:KeepS S a b) (hp:¬ S p.block) (hv:a.cell? p=some v):b.cell? p=some v:=by
 obtain ⟨c,t,fz,hc⟩:=q4i hv;unfold World.cell? at hv ⊢;rw [h.same _ _ hc Y hp];rw [hc] at hv;exact hv
theorem KeepS.blk {g:Nat} {T:TypeId} {cs:List Value} (h:KeepS S a b) (hB:Blk a g T cs) (hS:¬ S g):Blk b g T cs:=h.same _ _ hB Y hS
theorem KeepS.row {lo hi size m:Nat} {v:Value} {xs:List Value} (h:KeepS S a b) (hr:Row a lo hi size v m xs) (hS:∀ k,lo≤k→k < hi→¬ S k):Row b lo hi size v m xs:=by
 obtain ⟨hl,A,c,he,hc,hcm,hn⟩:=hr;refine ⟨hl,A,c,he,hc,hcm,fun h0=>?_⟩;obtain ⟨q,o,hA,h1,h2,h3⟩:=hn h0;exact ⟨q,o,hA,h1,h2,fun j u hu=>h.cell (hS q h1 h2) (h3 j u hu)⟩
theorem KeepS.own {base size m:Nat} {e:TypeId} {v:Value} {xs:List Value} (h:KeepS S a b) (ho:a.ownsRow base e size v m xs) (hS:∀ q,v.ownBlock=some q→¬ S q):b.ownsRow base e size v m xs:=by
 refine ⟨ho.1,?_⟩;rcases ho.2 with hn | ⟨q,cap,cur,hv,hb,hq,rest⟩
 · exact .inl hn
 · exact .inr ⟨q,cap,cur,hv,hb,h.same _ _ hq Y (hS q (by rw [hv];rfl)),rest⟩
theorem KeepS.trans (h:KeepS S a b) (k:KeepS S b c):KeepS S a c:=⟨Nat.le_trans h.size k.size,fun j o hj ho hs=>k.same j o (h.same j o hj ho hs) ho hs⟩
theorem KeepS.put {l:Nat} {o:Obj} (o':Obj) (h:a.heap[l]?=some o) (hc:o.isCells=false):KeepS S a (a.putObj l o') :=
 ⟨by simp,fun k o2 hk ho _=>by
   by_cases e:k=l
   · subst e;rw [h] at hk;cases hk;rw [hc] at ho;cases ho
   · rw [World.putObj_heap_other e];exact hk⟩
theorem Calm.of_ext (E:Ext a b):Calm B a b:=⟨E.os,E.tape,E.output,E.size,fun _ _ h _=>E.heap h⟩
theorem Calm.refl (a:World):Calm B a a:=Calm.of_ext (Ext.refl a)
theorem Calm.trans (h:Calm B a b) (k:Calm B b c):Calm B a c:=⟨k.os.trans h.os,k.tape.trans h.tape,k.output.trans h.output,Nat.le_trans h.size k.size,fun j o hj ho=>k.same j o (h.same j o hj ho) ho⟩
theorem Calm.of_book (h:Book B a b):Calm B a b:=by
 obtain ⟨row,hg,hr⟩:=h;refine ⟨hg.os,hg.tape,hg.output,hg.size,fun k o hk ho=>(hg.block k (q2b hk) (fun e=>?_)).trans hk⟩;obtain ⟨h1,o',h2,h3⟩:=hr k e.symm;rw [hk] at h2;cases h2
 rcases ho with h | h
 · rw [h] at h3;cases h3
 · omega
theorem Calm.keepS (h:Calm B a b):KeepS S a b:=⟨h.size,fun k o hk ho _=>h.same k o hk (.inl ho)⟩
theorem Calm.blk {g:Nat} {T:TypeId} {cs:List Value} (h:Calm B a b) (hB:Blk a g T cs):Blk b g T cs:=h.same _ _ hB (.inl Y)
theorem Calm.own {base size m:Nat} {e:TypeId} {v:Value} {xs:List Value} (h:Calm B a b) (ho:a.ownsRow base e size v m xs):b.ownsRow base e size v m xs:=(h.keepS (S:=fun _=>False)).own ho fun _ _ h=>h
theorem Calm.toExt {w0:World} (h:Calm B a b) (E:Ext w0 a) (hB:w0.heap.size≤B):Ext w0 b :=
 ⟨h.os.trans E.os,h.tape.trans E.tape,h.output.trans E.output,Nat.le_trans E.size h.size,fun k hk hn=>by
   have h1:=E.block k hk hn
   have h2:a.heap[k]?=some w0.heap[k]:=h1.trans (Array.getElem?_eq_getElem hk)
   rw [h.same k _ h2 (.inr (by omega)),← h2,h1]⟩
theorem Mut.calm (h:Mut S w a) (k:Calm w.heap.size a b):Mut S w b:=⟨k.os.trans h.os,k.tape.trans h.tape,k.output.trans h.output,Nat.le_trans h.size k.size,fun j o hj ho=>k.same j o (h.same j o hj ho) (.inr (q2b hj))⟩
def RowN (N:Nat→Prop) (w:World) (size:Nat) (v:Value) (m:Nat) (xs:List Value):Prop:=∃ lo hi,(∀ k,lo≤k→k < hi→N k)∧Row w lo hi size v m xs
section
variable {N N':Nat→Prop} {size m:Nat} {v:Value} {xs:List Value}
theorem RowN.mono (h:RowN N a size v m xs) (hN:∀ k,N k→N' k):RowN N' a size v m xs:=by
 obtain ⟨lo,hi,h1,h2⟩:=h;exact ⟨lo,hi,fun k hk hk2=>hN k (h1 k hk hk2),h2⟩
theorem RowN.keepS (h:RowN N a size v m xs) (k:KeepS S a b) (hN:∀ k,N k→¬ S k):RowN N b size v m xs:=by
 obtain ⟨lo,hi,h1,h2⟩:=h;exact ⟨lo,hi,h1,k.row h2 fun q hq hq2=>hN q (h1 q hq hq2)⟩
theorem RowN.ext (h:RowN N a size v m xs) (E:Ext a b):RowN N b size v m xs:=by
 obtain ⟨lo,hi,h1,h2⟩:=h;exact ⟨lo,hi,h1,h2.ext E⟩
theorem RowN.grown {row:Option Nat} (h:RowN N a size v m xs) (g:a.grownBy b row) (hr:∀ q,row=some q→¬ N q):RowN N b size v m xs:=by
 obtain ⟨lo,hi,h1,h2⟩:=h;refine ⟨lo,hi,h1,h2.grown g fun q hq=>?_⟩;by_cases h3:q < lo
 · exact .inl h3
 · by_cases h4:hi≤q
   · exact .inr h4
   · exact absurd (h1 q (by omega) (by omega)) (hr q hq)
theorem RowN.of {lo hi:Nat} (h:Row a lo hi size v m xs):RowN (fun k=>lo≤k∧k < hi) a size v m xs:=⟨lo,hi,fun _ h1 h2=>⟨h1,h2⟩,h⟩
theorem RowN.ofAny {lo hi:Nat} (h:Row a lo hi size v m xs):RowN (fun _=>True) a size v m xs:=⟨lo,hi,fun _ _ _=>trivial,h⟩
theorem RowN.of_own {base e:Nat} (h:a.ownsRow base e size v m xs):RowN (fun k=>base≤k∧k < a.heap.size) a size v m xs:=RowN.of (Row.of_own h)
theorem RowN.tight (h:RowN N a size v m xs) (hs:0 < size):RowN (fun k=>N k∧k < a.heap.size) a size v m xs:=by
 obtain ⟨lo,hi,h1,hl,A,c,he,hc,hcm,hn⟩:=h;by_cases hm:0 < m
 · obtain ⟨q,o,hA,h4,h5,h3⟩:=hn hm;have hx:0 < xs.length:=(by rw [hl];exact Nat.mul_pos hm hs);obtain ⟨c',t,fz,hcc⟩:=q4i (h3 0 xs[0] (List.getElem?_eq_getElem hx));exact ⟨q,q+1,fun k hk hk2=>by rw [show k=q by omega];exact ⟨h1 q h4 h5,q2b hcc⟩,hl,A,c,he,hc,hcm,fun _=>⟨q,o,hA,by omega,by omega,h3⟩⟩
 · exact ⟨0,0,fun k _ h=>absurd h (by omega),hl,A,c,he,hc,hcm,fun h0=>absurd h0 hm⟩
theorem RowN.form (h:RowN N a size v m xs):∃ A c,v=.slice A m c∧m≤c∧c≤maxLen:=by
 obtain ⟨lo,hi,h1,hl,A,c,he,hc,hcm,hn⟩:=h;exact ⟨A,c,he,hc,hcm⟩
theorem RowN.cell1 (h:RowN N a size v m xs):v.oneCell'=true:=by
 obtain ⟨A,c,rfl,_⟩:=h.form;rfl
theorem RowN.at {k:Nat} (h:RowN N a size v m xs) (hk:k < m):∃ b o c,v=.slice (some ⟨b,o,none⟩) m c∧m≤c∧c≤maxLen∧N b∧a.rangeAt b o xs:=by
 obtain ⟨lo,hi,h1,hl,A,c,he,hc,hcm,hn⟩:=h;obtain ⟨q,o,rfl,h4,h5,h3⟩:=hn (by omega);exact ⟨q,o,c,he,hc,hcm,h1 q h4 h5,h3⟩
theorem RowN.re {m':Nat} {ys:List Value} (h:RowN N a size v m xs) (hm:m=m') (hx:xs=ys):RowN N a size v m' ys:=by subst hm;subst hx;exact h
end
def q7a (N:Nat→Prop) (w:World) (kd:IntKind) (v:Value) (M:List (List Nat)):Prop :=
 ∃ vs:List Value,vs.length=M.length∧RowN N w 1 v M.length vs∧∀ (i:Nat) (x:Value) (y:List Nat),vs[i]?=some x→M[i]?=some y→RowN N w 1 x y.length (ints kd y)
section
variable {N N':Nat→Prop} {kd:IntKind} {v:Value} {M:List (List Nat)}
theorem q7a.keepS (h:q7a N a kd v M) (k:KeepS S a b) (hN:∀ k,N k→¬ S k):q7a N b kd v M:=by
 obtain ⟨vs,h0,h1,h2⟩:=h;exact ⟨vs,h0,h1.keepS k hN,fun i x y hx hy=>(h2 i x y hx hy).keepS k hN⟩
theorem q7a.ext (h:q7a N a kd v M) (E:Ext a b):q7a N b kd v M:=by
 obtain ⟨vs,h0,h1,h2⟩:=h;exact ⟨vs,h0,h1.ext E,fun i x y hx hy=>(h2 i x y hx hy).ext E⟩
theorem q7a.tight (h:q7a N a kd v M):q7a (fun k=>N k∧k < a.heap.size) a kd v M:=by
 obtain ⟨vs,h0,h1,h2⟩:=h;exact ⟨vs,h0,h1.tight (by decide),fun i x y hx hy=>(h2 i x y hx hy).tight (by decide)⟩
theorem q7a.form (h:q7a N a kd v M):∃ A c,v=.slice A M.length c∧M.length≤c∧c≤maxLen:=by
 obtain ⟨vs,h0,h1,h2⟩:=h;exact h1.form
end
theorem Row.of_blkH {size g o m c:Nat} {T:TypeId} {cs xs:List Value} (h:Blk a g T cs) (hc:m≤c) (hm:c≤maxLen) (hl:xs.length=m * size) (hx:∀ j u,xs[j]?=some u→cs[o+j]?=some u):Row a g (g+1) size (.slice (some ⟨g,o,none⟩) m c) m xs :=
 ⟨hl,_,_,rfl,hc,hm,fun _=>⟨g,o,rfl,Nat.le_refl _,Nat.lt_succ_self _,h.range hx⟩⟩
section
variable {A:Nat→World→Prop} {Fin:List Oper→(Rho→Fr)→(Rho→Nat→World→Prop)→Prop} {E:List Ent} {gf:Rho→Fr} {H:Rho→Nat→World→Prop} {t ty:TypeId} {pos:String} {af:Array Edge} {x y:Operand}
theorem DW_storeG [TOne P ty] {k0 g j:Nat} {T:TypeId} {o:List Value} {v:Rho→Value} {w0:World} {Pre:World→Prop} (hx:∀ r,ev n (gf r) x=.pointer (some ⟨g,j,none⟩)) (hy:∀ r,ev n (gf r) y=v r) (h1:∀ r,(v r).oneCell'=true) (hj:j < o.length) (hP:∀ w,Pre w→Blk w g T o) (hi:∀ r u,v (rset r k0 u)=v r)
   (hr:DW (RG k0 g) P n ops (AG ops k0 g Pre w0) Fin rest (k0+1) E gf (fun r i w=>bif Nat.beq i k0 then Blk w g T (o.set j (v r)) else H r i w)) :
   DW (RG k0 g) P n ops (AG ops k0 g Pre w0) Fin (⟨none,.store ty x y,t,pos,af,none⟩ :: rest) k0 (.op (fun r w=>Blk w g T (o.set j (v r))) :: E) gf H:=by
 refine .op (fun r w hA hH=>⟨rfl,?_⟩) (fun i r w w' h1 h2 hR h=>h.ext (hR.other h1)) hr;have B:=hP _ (hA.pre (.inl Y));have B':Blk (w.setRow g (o.set j (v r)).toArray) g T (o.set j (v r)):=B.setRow _;exact q8u (X_store1 (hx r) (hy r) (h1 r) B hj) ⟨.inr ⟨rfl,q3v _ _ _⟩,by rw [hi];exact B'⟩
end
section
variable {d:Option Tmp} {t ty e:TypeId} {pos:String} {af:Array Edge} {g:Option (Nat × Bool)} {x y z u:Operand}
theorem X_slice3 {size m c:Nat} [hs:TSlice P ty e] [hz:TSz P e size] {A:Option Addr} {ky kz ku:IntKind} {iy iz iu:Int} (i j k:Nat)
   (hx:ev n f x=.slice A m c) (hy:ev n f y=.int ky iy) (hzz:ev n f z=.int kz iz) (hu:ev n f u=.int ku iu) (hi:iy=(i:Int)) (hj:iz=(j:Int)) (hk:iu=(k:Int)) (hij:i≤j) (hjk:j≤k) (hkc:k≤c) :
   X P n ⟨d,.slice ty x (some y) (some z) (some u),t,pos,af,g⟩ f w=.ok (.value (.slice (if k=i then A else A.map (·.add (i * size))) (j - i) (k - i))) w:=by
 subst hi;subst hj;subst hk;have hb:(Instr.sliceBounds true m c (some (.int ky (i:Int))) (some (.int kz (j:Int))) (some (.int ku (k:Int)))).run P w=.ok (i,j,k) w:=by
   unfold Instr.sliceBounds;simp [q3h (P:=P) (w:=w) _ ku (k:Int) _ _ Y (show (0:Int)≤k∧(k:Int)≤((c:Nat):Int) by omega),q3h (P:=P) (w:=w) _ kz (j:Int) _ _ Y (show (0:Int)≤j∧(j:Int)≤((k:Nat):Int) by omega),q3h (P:=P) (w:=w) _ ky (i:Int) _ _ Y (show (0:Int)≤i∧(i:Int)≤((j:Nat):Int) by omega)]
 have:(Instr.sliceAt ty (.slice A m c) (some (.int ky (i:Int))) (some (.int kz (j:Int))) (some (.int ku (k:Int)))).run P w=.ok (.slice (if k=i then A else A.map (·.add (i * size))) (j - i) (k - i)) w:=by
   unfold Instr.sliceAt;rw [Sem.run_bind,run_underlying hs.h,Result.andThen_ok];simp only [Instr.slice];rw [Sem.run_bind,run_underlying hs.h,Result.andThen_ok];simp only [];rw [Sem.run_bind,hb,Result.andThen_ok];simp only [];rw [Sem.run_bind,TSz.run (size:=size),Result.andThen_ok];rfl
 simp only [X,execOp,hx,hy,hzz,hu,Sem.run_bind,Option.map_some,this,Result.andThen_ok,Sem.run_pure]
end
section
variable {d:Option Tmp} {t ty e:TypeId} {pos:String} {af:Array Edge} {g:Option (Nat × Bool)} {x y z u:Operand}
theorem z5j (b o k:Nat):(⟨b,o,none⟩:Addr).add k=⟨b,o+k,none⟩:=by
 unfold Addr.add;by_cases h:k=0
 · subst h;rfl
 · rw [if_neg h]
theorem z2x {size m c b o:Nat} [TSlice P ty e] [TSz P e size] {ky kz ku:IntKind} {iy iz iu:Int} (i q q' o':Nat)
   (hx:ev n f x=.slice (some ⟨b,o,none⟩) m c) (hy:ev n f y=.int ky iy) (hzz:ev n f z=.int kz iz) (hu:ev n f u=.int ku iu) (hi:iy=(i:Int)) (hj:iz=((i+q:Nat):Int)) (hk:iu=((i+q':Nat):Int)) (hqq:q≤q') (h0:0 < q') (hc:i+q'≤c) (ho:o'=o+i * size) :
   X P n ⟨d,.slice ty x (some y) (some z) (some u),t,pos,af,g⟩ f w=.ok (.value (.slice (some ⟨b,o',none⟩) q q')) w:=by
 have h:X P n ⟨d,.slice ty x (some y) (some z) (some u),t,pos,af,g⟩ f w=_:=X_slice3 (size:=size) i (i+q) (i+q') hx hy hzz hu hi hj hk (by omega) (by omega) hc;rw [if_neg (by omega),show i+q - i=q by omega,show i+q' - i=q' by omega,Option.map_some,z5j] at h;rw [ho];exact h
end
section
variable {d:Tmp} {t ty e:TypeId} {pos:String} {af:Array Edge} {x y:Operand}
theorem z4f {z:List Value} {size bytes:Nat} [ht:TSlice P ty e] [hz:TZero P e z] [he:TElem P e size bytes] {kl kc:IntKind} {l c:Int} (m q:Nat) (hx:ev n f x=.int kl l) (hy:ev n f y=.int kc c) (hl:l=(m:Int)) (hc:c=(q:Int)) (hmq:m≤q) (hb:bytes * q≤281474976710656) (hq:q≤1000000000000)
   (h:∀ g w',Blk w' g e (List.replicate q z).flatten→w.heap.size=g→Ext w w'→w'.heap.size=g+1→L P n ops Q rest (upd f d (.slice (some ⟨g,0,none⟩) m q)) w') :
   L P n ops Q (⟨some d,.makeSlice ty x y,t,pos,af,none⟩ :: rest) f w:=by
 subst hl;subst hc;obtain ⟨v,hv,hcs⟩:=hz.h;have hsz:=hz.s;obtain ⟨z',hi',_,_⟩:=he.h;cases hi:P.info? e with
 | none=>simp [hi] at hsz
 | some i =>
   have hzero:i.zero=some v:=(by simpa [hi] using hv);have hsize:i.size=z.length:=(by simpa [hi] using hsz);have hbytes:i.bytes=bytes:=(by simp [hi] at hi';exact hi'.2.2);have hbi:(i.bytes:Int) * (q:Int)≤281474976710656:=by
     rw [hbytes,← Int.natCast_mul];omega
   have hr:=run_make (P:=P) w ty e i v ht.h hi hzero kl kc (m:Int) (q:Int) (by omega) (by omega) hbi (by omega);simp only [Int.toNat_natCast] at hr;have hm:madeCells v.cells (q * i.size)=(List.replicate q z).flatten.toArray:=by
     unfold madeCells;rw [hcs,hsize];exact z0f z q
   rw [hm] at hr;refine Ls (v:=.slice (some ⟨w.heap.size,0,none⟩) m q) (w':=w.alloc (.cells (List.replicate q z).flatten.toArray e)) ?_ (h w.heap.size _ (Blk.new w e _) Y (q1k _ _) (by simp));simp only [X,execOp,hx,hy,Sem.run_bind,hr,Result.andThen_ok,Sem.run_pure]
end
theorem own_of_blk {base g size m c:Nat} {T:TypeId} {cs xs:List Value} (h:Blk a g T cs) (hb:base≤g) (hmc:m≤c) (hc:c≤maxLen) (hl:cs.length=c * size) (hx:cs.take (m * size)=xs):a.ownsRow base T size (.slice (some ⟨g,0,none⟩) m c) m xs:=by
 have hmul:m * size≤c * size:=Nat.mul_le_mul_right _ hmc;exact ⟨by rw [← hx,List.length_take];omega,.inr ⟨g,c,cs.toArray,rfl,hb,h,hmc,hc,by simp [hl],by simpa using hx⟩⟩
theorem q7j {base e size m:Nat} {v:Value} {xs:List Value} (h:a.ownsRow base e size v m xs) (h0:0 < m):∃ g c,v=.slice (some ⟨g,0,none⟩) m c∧base≤g∧g < a.heap.size∧m≤c∧c≤maxLen:=by
 rcases h.2 with ⟨_,rfl⟩ | ⟨g,cap,cur,rfl,h1,h2,h3,h4,_⟩
 · omega
 · exact ⟨g,cap,rfl,h1,q2b h2,h3,h4⟩
theorem q6c {base e size m g c:Nat} {xs:List Value} (h:a.ownsRow base e size (.slice (some ⟨g,0,none⟩) m c) m xs):a.rangeAt g 0 xs:=by
 have hr:=Row.of_own h;obtain ⟨hl,A,c',he,hc,hcm,hn⟩:=hr;cases he
 by_cases h0:0 < m
 · obtain ⟨q,o,hA,_,_,h3⟩:=hn h0;cases hA
   exact h3
 · intro j u hu;have:=(List.getElem?_eq_some_iff.1 hu).1;rw [hl,show m=0 by omega,Nat.zero_mul] at this;omega
theorem mid_get (A l D:List Value) (j:Nat):(A++l++D)[j]?=if j < A.length then A[j]? else if j < A.length+l.length then l[j - A.length]? else D[j - A.length - l.length]?:=by
 rw [List.append_assoc,List.getElem?_append];by_cases h:j < A.length
 · rw [if_pos h,if_pos h]
 · rw [if_neg h,if_neg h,List.getElem?_append];by_cases h2:j < A.length+l.length
   · rw [if_pos (by omega),if_pos h2]
   · rw [if_neg (by omega),if_neg h2]
theorem own_set {base e size m g c o q:Nat} {xs l:List Value} (ho:w.ownsRow base e size (.slice (some ⟨g,0,none⟩) m c) m xs) (hl:l.length=q) (hoq:o+q≤m * size) :
   ∃ cs,Blk w g e cs∧o+q≤cs.length∧∀ w',Blk w' g e (cs.take o++l++cs.drop (o+q))→w'.ownsRow base e size (.slice (some ⟨g,0,none⟩) m c) m (xs.take o++l++xs.drop (o+q)):=by
 rcases ho.2 with ⟨hv,_⟩ | ⟨g',cap,cur,hv,h1,h2,h3,h4,h5,h6⟩
 · cases hv
 · cases hv
   have hmul:m * size≤c * size:=Nat.mul_le_mul_right _ h3;have hcl:cur.toList.length=c * size:=(by simpa using h5);refine ⟨cur.toList,h2,by omega,fun w' hB=>own_of_blk hB h1 h3 h4 (by simp;omega) ?_⟩;have hxl:=ho.1;rw [← h6];apply List.ext_getElem?;intro j;have e1:(cur.toList.take o).length=o:=(by rw [List.length_take,hcl];omega);have e2:((cur.toList.take (m * size)).take o).length=o:=(by rw [List.length_take,List.length_take,hcl];omega);rw [mid_get,e2,List.getElem?_take,mid_get,e1,hl];by_cases hj:j < m * size
   · rw [if_pos hj];by_cases hjo:j < o
     · rw [if_pos hjo,if_pos hjo,List.getElem?_take_of_lt hjo,List.getElem?_take_of_lt hjo,List.getElem?_take_of_lt hj]
     · rw [if_neg hjo,if_neg hjo];by_cases hjq:j < o+q
       · rw [if_pos hjq,if_pos hjq]
       · rw [if_neg hjq,if_neg hjq,List.getElem?_drop,List.getElem?_drop,show o+q+(j - o - q)=j by omega,List.getElem?_take_of_lt hj]
   · rw [if_neg hj,if_neg (by omega),if_neg (by omega),List.getElem?_drop,show o+q+(j - o - q)=j by omega,List.getElem?_take,if_neg hj]
section
variable {t ty e:TypeId} {pos:String} {af:Array Edge} {x y:Operand}
theorem L_storeRow {size base m g c o i:Nat} {xs l:List Value} [TAgg P ty size] (ho:w.ownsRow base e size (.slice (some ⟨g,0,none⟩) m c) m xs) (hx:ev n f x=.pointer (some ⟨g,o,none⟩)) (hy:ev n f y=.agg l.toArray) (hoi:o=i * size) (hl:l.length=size) (h1:∀ v∈l,v.oneCell'=true) (hi:i < m)
   (h:∀ w',w'.ownsRow base e size (.slice (some ⟨g,0,none⟩) m c) m (xs.take (i * size)++l++xs.drop (i * size+size))→w.grownBy w' (some g)→w'.heap.size=w.heap.size→L P n ops Q rest f w') :
   L P n ops Q (⟨none,.store ty x y,t,pos,af,none⟩ :: rest) f w:=by
 have hle:i * size+size≤m * size:=by rw [← Nat.succ_mul];exact Nat.mul_le_mul_right _ hi
 obtain ⟨cs,hB,hc,hk⟩:=own_set (o:=i * size) ho hl hle;subst hoi;exact q8w hx hy hl h1 hB hc fun w' hB' hg hs=>h w' (hk w' hB') hg hs
theorem q6i {base m g c o i:Nat} {xs:List Value} {v:Value} [TOne P ty] (ho:w.ownsRow base e 1 (.slice (some ⟨g,0,none⟩) m c) m xs) (hx:ev n f x=.pointer (some ⟨g,o,none⟩)) (hy:ev n f y=v) (hoi:o=i * 1) (h1:v.oneCell'=true) (hi:i < m)
   (h:∀ w',w'.ownsRow base e 1 (.slice (some ⟨g,0,none⟩) m c) m (xs.set i v)→w.grownBy w' (some g)→w'.heap.size=w.heap.size→L P n ops Q rest f w') :
   L P n ops Q (⟨none,.store ty x y,t,pos,af,none⟩ :: rest) f w:=by
 obtain ⟨cs,hB,hc,hk⟩:=own_set (o:=i) (l:=[v]) (q:=1) ho rfl (by omega);have hs:∀ (l:List Value),i < l.length→l.take i++[v]++l.drop (i+1)=l.set i v:=fun l hl=>by
   rw [List.set_eq_take_append_cons_drop,if_pos hl,List.append_assoc];rfl
 rw [Nat.mul_one] at hoi;subst hoi;refine q1b hx hy h1 hB (by omega) fun w' hB' hg hs'=>h w' ?_ hg hs';have:=hk w' (by rw [hs cs (by omega)];exact hB');rw [hs xs (by rw [ho.1];omega)] at this;exact this
end
section
variable {d:Option Tmp} {t ty e:TypeId} {pos:String} {af:Array Edge} {g:Option (Nat × Bool)} {x y z u:Operand}
theorem X_sliceBp {size m c b o:Nat} [TSlice P ty e] [TSz P e size] {ky:IntKind} {iy:Int} (j:Nat) (hx:ev n f x=.slice (some ⟨b,o,none⟩) m c) (hy:ev n f y=.int ky iy) (hj:iy=(j:Int)) (hjc:j≤c) :
   X P n ⟨d,.slice ty x none (some y) none,t,pos,af,g⟩ f w=.ok (.value (.slice (some ⟨b,o,none⟩) j c)) w:=by
 have h:X P n ⟨d,.slice ty x none (some y) none,t,pos,af,g⟩ f w=_:=q9x (size:=size) j hx hy hj hjc;rw [Option.map_some,z5j,Nat.zero_mul,Nat.add_zero,Nat.sub_zero,Nat.sub_zero,ite_self] at h;exact h
theorem X_sliceAp {size m c b o:Nat} [TSlice P ty e] [TSz P e size] {ky:IntKind} {iy:Int} (i:Nat) (hx:ev n f x=.slice (some ⟨b,o,none⟩) m c) (hy:ev n f y=.int ky iy) (hi:iy=(i:Int)) (him:i≤m) (hmc:m≤c) (hic:i < c) :
   X P n ⟨d,.slice ty x (some y) none none,t,pos,af,g⟩ f w=.ok (.value (.slice (some ⟨b,o+i * size,none⟩) (m - i) (c - i))) w:=by
 have h:X P n ⟨d,.slice ty x (some y) none none,t,pos,af,g⟩ f w=_:=z1r (size:=size) i hx hy hi him hmc;rw [if_neg (by omega),Option.map_some,z5j] at h;exact h
end
theorem Mut.toGrown {g:Nat} (h:Mut (fun k=>k=g) a b):a.grownBy b (some g) :=
 ⟨h.os,h.tape,h.output,h.size,fun k hk hn=>by
   rw [h.same k _ (Array.getElem?_eq_getElem hk) (.inr fun e=>hn (by rw [e])),Array.getElem?_eq_getElem hk]⟩
theorem Calm.toGrown {w0:World} {row:Option Nat} (h:Calm B a b) (G:w0.grownBy a row) (hB:w0.heap.size≤B):w0.grownBy b row :=
 ⟨h.os.trans G.os,h.tape.trans G.tape,h.output.trans G.output,Nat.le_trans G.size h.size,fun k hk hn=>by
   have h1:=G.block k hk hn
   have h2:a.heap[k]?=some w0.heap[k]:=h1.trans (Array.getElem?_eq_getElem hk)
   rw [h.same k _ h2 (.inr (by omega)),← h2,h1]⟩
abbrev z1j (P:Program) (gf:FuncId) (lb:Array Value) (w:World) (S:Nat→Prop) (Pre:Nat→List Value→World→Prop) (Fin:Nat→Prop):Prop:=IterL P gf lb w Pre (KeepS S) Ext Ext (fun i _=>Fin i)
def roundM (id:Nat) (N X:World→Prop):Exit→Fr→World→Prop
 | .normal,_,w'=>N w'
 | .exit id',_,w'=>id'=id∧X w'
 | _,_,_=>False
def mark (D:Nat):Deferred:={ target:=.collected D,args:=#[] }
theorem C_rangeM {k id:Nat} {dv:List Deferred} {Q':Exit→Act→World→Prop} {g:Operand} {ps:List Tmp} {assign body:Code} {gf:FuncId} {lb:Array Value}
   (S:Nat→Prop) (hg:ev ⟨k,dv,none⟩ f g=.func (.func gf) #[] lb) (he:Enters P gf)
   {Pre:Nat→List Value→World→Prop} {Fin:Nat→Prop} (hlen:∀ i vs a,Pre i vs a→vs.length=ps.length) (hit:z1j P gf lb w S Pre Fin)
   (Inv:Nat→World→Prop) (Stop:World→Prop) (hI:∀ i a b,Inv i a→Calm w.heap.size a b→Inv i b) (hX:∀ a b,Stop a→Calm w.heap.size a b→Stop b)
   (h0:Inv 0 w) (GA:Nat→List Value→World→Fr→World→Prop) (hGA:∀ i v a f' b,GA i v a f' b→Ext a b)
   (hassign:∀ l v i a,Inv i a→Mut S w a→Pre i v a→W P ⟨k,[],some l⟩ assign (fun e f' b=>e=.normal∧GA i v a f' b) (updL f ps v) a)
   (hbody:∀ l i v a f' b c,Inv i c→Mut S w c→Pre i v a→GA i v a f' b→Calm w.heap.size a c→Calm w.heap.size b c→W P ⟨k,[],some l⟩ body (roundM id (fun c'=>Mut S c c'∧Inv (i+1) c') (fun c'=>Mut S c c'∧Stop c')) f' c)
   (hdone:∀ D b,w.heap.size≤D→((∃ i,Fin i∧Inv i b)∨Stop b)→Mut S w b→b.heap[D]?=some (.deferred (some []))→Q' .normal (act ⟨k,mark D :: dv,none⟩ f) b) :
   (Code.block id (.rangeFunc g ps.toArray assign body)).wpIn (NN.fen ⟨k,dv,none⟩) 9 P Q' (act ⟨k,dv,none⟩ f) w:=by
 have hI':∀ i a b,(Inv i a∧Mut S w a)→Calm w.heap.size a b→(Inv i b∧Mut S w b):=fun i a b h k=>⟨hI i a b h.1 k,h.2.calm k⟩;have hX':∀ a b,(Stop a∧Mut S w a)→Calm w.heap.size a b→(Stop b∧Mut S w b):=fun a b h k=>⟨hX a b h.1 k,h.2.calm k⟩;refine wpIn_block (wpIn_rangeFunc fun fn' hfn=>?_);obtain ⟨rec,hrec⟩:∃ rec:LoopState→Option Code→Loop,rec=fun st pe=>{ state:=st,pending:=pe,fn:=fn',tmps:=arr ⟨k,[],none⟩ f,params:=ps.toArray,assign,body,defers:=w.heap.size }:=⟨_,rfl⟩;obtain ⟨wl,hwl⟩:∃ wl,(w.alloc (.deferred (some []))).alloc (.loop (rec .ready none))=wl:=⟨_,rfl⟩;have hL1:wl.heap[w.heap.size+1]?=some (.loop (rec .ready none)):=by
   rw [← hwl];have:=World.alloc_heap_new (w.alloc (.deferred (some []))) (.loop (rec .ready none));rwa [World.size_alloc] at this
 have hK1:wl.heap[w.heap.size]?=some (.deferred (some [])):=by
   rw [← hwl];exact (Below.heap_alloc _ _ _ (by simp)).trans (World.alloc_heap_new w _)
 have hE1:Ext w wl:=by rw [← hwl];exact (q1k w _).trans (q1k _ _)
 have hI1:Inv 0 wl∧Mut S w wl:=hI' _ _ _ ⟨h0,Mut.refl w⟩ (Calm.of_ext hE1);have hkf:∀ a b,Ext a b→KeepsFrom w.heap.size a b:=fun _ _ E=>⟨E.size,fun k o _ hk _=>E.heap hk⟩;refine ⟨w.heap.size+1,[{ target:=.collected w.heap.size,args:=#[] }],wl,{ target:=.fn (.func gf) lb,args:=#[q5c (w.heap.size+1)] },wl,gf,#[q5c (w.heap.size+1)]++lb,wl,?_,?_,?_,?_,fun _=>by omega,?_⟩
 · rw [← hwl,hrec];exact run_enterLoop_outer _ _ _ _ _
 · rw [q7p];simp only [resolve,hg];simp [q5c,ev,go_sem]
 · exact fun _ _=>trivial
 · exact he _ _
 · have heq:∀ st pe,(rec st pe).fn=fn'∧(rec st pe).tmps=arr ⟨k,[],none⟩ f∧(rec st pe).params=ps.toArray∧(rec st pe).assign=assign∧(rec st pe).body=body∧(rec st pe).state=st∧(rec st pe).pending=pe:=fun st pe=>(by rw [hrec];exact ⟨rfl,rfl,rfl,rfl,rfl,rfl,rfl⟩);have hst:∀ st pe st',({ rec st pe with state:=st' }:Loop)=rec st' pe:=fun st pe st'=>(by rw [hrec]);have hst2:∀ st pe st' pe',({ rec st pe with state:=st',pending:=pe' }:Loop)=rec st' pe':=fun st pe st' pe'=>(by rw [hrec]);have hlb:w.heap.size≤w.heap.size+1:=(by omega);refine n9.1 ((hit (w.heap.size+1)
     (fun i a=>(Inv i a∧Mut S w a)∧a.heap[w.heap.size+1]?=some (.loop (rec .ready none))∧a.heap[w.heap.size]?=some (.deferred (some [])))
     (fun a=>(Stop a∧Mut S w a)∧a.heap[w.heap.size+1]?=some (.loop (rec .done (some (.exit id))))∧a.heap[w.heap.size]?=some (.deferred (some [])))
     wl hE1
     (fun i a b h hi=>⟨hI' i a b h.1 (Calm.of_ext hi),hi.heap h.2.1,hi.heap h.2.2⟩)
     (fun a b h hi=>⟨hX' a b h.1 (Calm.of_ext hi),hi.heap h.2.1,hi.heap h.2.2⟩)
     ?_ ⟨hI1,hL1,hK1⟩).mono ?_)
   · rintro i v a ⟨hi, hl, hk⟩ hp; have hlt : w.heap.size + 1 < a.heap.size := (Array.getElem?_eq_some_iff.1 hl).1; have hy := run_yield (P := P) (args := v.toArray) hl (by rw [(heq _ _).2.2.1]; simp [hlen i v a hp]); rw [(heq _ _).1, (heq _ _).2.1, (heq _ _).2.2.1, (heq _ _).2.2.2.1, (heq _ _).2.2.2.2.1] at hy; refine ⟨fn', _, assign, body, hy, roundIn_of_wpIn hfn ?_⟩; have htm : (ps.toArray.zip v.toArray).foldl (fun (t : Array Value) (q, a) => t.setIfInBounds q a) (arr ⟨k, [], none⟩ f) = arr ⟨k, [], some (w.heap.size + 1)⟩ (updL f ps v) := arr_updL ps v f; rw [htm]; refine q9f (m := 9) Y (wpIn_mono (hassign (w.heap.size + 1) v i a hi.1 hi.2 hp) ?_); rintro e a1 w1 ⟨f', rfl, rfl, hga⟩; have hE := hGA _ _ _ _ _ hga; have hl := hE.heap hl; have hk := hE.heap hk; have hlt : w.heap.size + 1 < w1.heap.size := (Array.getElem?_eq_some_iff.1 hl).1; refine ⟨_, run_beginRound hl (heq _ _).2.2.2.2.2.1, ?_⟩; rw [hst]; have hbk : Calm w.heap.size w1 (w1.putObj (w.heap.size + 1) (.loop (rec .busy none))) := Calm.of_book (Book.put _ hlb hl Y); have hl2 : (w1.putObj (w.heap.size + 1) (.loop (rec .busy none))).heap[w.heap.size + 1]? = some (.loop (rec .busy none)) := World.putObj_heap_same hlt; have hk2 : (w1.putObj (w.heap.size + 1) (.loop (rec .busy none))).heap[w.heap.size]? = some (.deferred (some [])) := (World.putObj_heap_other (by omega)).trans hk; have hac : Calm w.heap.size a (w1.putObj (w.heap.size + 1) (.loop (rec .busy none))) := (Calm.of_ext hE).trans hbk; have hic := hI' _ _ _ hi hac; refine q9f (m := 9) Y (wpIn_mono (hbody (w.heap.size + 1) i v a f' w1 _ hic.1 hic.2 hp hga hac hbk) ?_); have fin : ∀ (jump : Option Code) (c : World), Mut S (w1.putObj (w.heap.size + 1) (.loop (rec .busy none))) c →
         (Instr.endRound (w.heap.size+1) jump).run P c=.ok (.bool jump.isNone) (c.putObj (w.heap.size+1) (.loop (rec (if jump.isNone then .ready else .done) jump))) ∧
         c.heap[w.heap.size+1]?=some (.loop (rec .busy none)) ∧
         (c.putObj (w.heap.size+1) (.loop (rec (if jump.isNone then .ready else .done) jump))).heap[w.heap.size+1]?=some (.loop (rec (if jump.isNone then .ready else .done) jump)) ∧
         (c.putObj (w.heap.size+1) (.loop (rec (if jump.isNone then .ready else .done) jump))).heap[w.heap.size]?=some (.deferred (some [])):=fun jump c hc=>by
       have hl3:=hc.heap hl2 Y;have:=run_endRound (P:=P) jump hl3;rw [hst2] at this;exact ⟨this,hl3,World.putObj_heap_same (Array.getElem?_eq_some_iff.1 hl3).1,(World.putObj_heap_other (by omega)).trans (hc.heap hk2 Y)⟩
     rintro e a3 w3 ⟨f3,rfl,hq⟩;cases e with
     | normal =>
       obtain ⟨hc,hi3⟩:=hq;obtain ⟨hr,hl3,hl4,hk4⟩:=fin none w3 hc;refine ⟨_,_,hr,.inl ⟨rfl,⟨hI' _ _ _ ⟨hi3,hic.2.trans hc⟩ (Calm.of_book (Book.put _ hlb hl3 Y)),hl4,hk4⟩,?_⟩⟩;exact (hac.keepS.trans hc.keepS).trans (KeepS.put _ hl3 Y)
     | exit id' =>
       obtain ⟨rfl,hc,hs3⟩:=hq;obtain ⟨hr,hl3,hl4,hk4⟩:=fin (some (.exit id')) w3 hc;exact ⟨_,_,hr,.inr ⟨rfl,hX' _ _ ⟨hs3,hic.2.trans hc⟩ (Calm.of_book (Book.put _ hlb hl3 Y)),hl4,hk4⟩⟩
     | ret=>exact hq.elim
     | goto t=>exact hq.elim
     | panic ch=>exact hq.elim
     | outgrown=>exact hq.elim
   · rintro e b ⟨⟨v,rfl⟩,h⟩;rcases h with ⟨i,hf,hi,hl,hk⟩ | ⟨hs,hl,hk⟩
     · refine ⟨none,_,by have:=run_endLoop (P:=P) hl (by rw [(heq _ _).2.2.2.2.2.1];simp);rw [hst,(heq _ _).2.2.2.2.2.2] at this;exact this,?_⟩;have hbk:Calm w.heap.size b (b.putObj (w.heap.size+1) (.loop (rec .exhausted none))):=Calm.of_book (Book.put _ hlb hl Y);have hi2:=hI' _ _ _ hi hbk;exact hdone w.heap.size _ (Nat.le_refl _) (.inl ⟨i,hf,hi2.1⟩) hi2.2 ((World.putObj_heap_other (by omega)).trans hk)
     · refine ⟨some (.exit id),_,by have:=run_endLoop (P:=P) hl (by rw [(heq _ _).2.2.2.2.2.1];simp);rw [hst,(heq _ _).2.2.2.2.2.2] at this;exact this,?_⟩;have hbk:Calm w.heap.size b (b.putObj (w.heap.size+1) (.loop (rec .exhausted (some (.exit id))))):=Calm.of_book (Book.put _ hlb hl Y);have hs2:=hX' _ _ hs hbk;refine wpIn_exit ?_;simp only [Exit.inBlock,if_true];exact hdone w.heap.size _ (Nat.le_refl _) (.inr hs2.1) hs2.2 ((World.putObj_heap_other (by omega)).trans hk)
theorem T_rangeM {k id:Nat} {dv:List Deferred} {fn:Func} {R:Ending→World→Prop} {g:Operand} {ps:List Tmp} {assign body d:Code} {gf:FuncId} {lb:Array Value}
   (S:Nat→Prop) (hg:ev ⟨k,dv,none⟩ f g=.func (.func gf) #[] lb) (he:Enters P gf)
   {Pre:Nat→List Value→World→Prop} {Fin:Nat→Prop} (hlen:∀ i vs a,Pre i vs a→vs.length=ps.length) (hit:z1j P gf lb w S Pre Fin)
   (Inv:Nat→World→Prop) (Stop:World→Prop) (hI:∀ i a b,Inv i a→Calm w.heap.size a b→Inv i b) (hX:∀ a b,Stop a→Calm w.heap.size a b→Stop b)
   (h0:Inv 0 w) (GA:Nat→List Value→World→Fr→World→Prop) (hGA:∀ i v a f' b,GA i v a f' b→Ext a b)
   (hassign:∀ l v i a,Inv i a→Mut S w a→Pre i v a→W P ⟨k,[],some l⟩ assign (fun e f' b=>e=.normal∧GA i v a f' b) (updL f ps v) a)
   (hbody:∀ l i v a f' b c,Inv i c→Mut S w c→Pre i v a→GA i v a f' b→Calm w.heap.size a c→Calm w.heap.size b c→W P ⟨k,[],some l⟩ body (roundM id (fun c'=>Mut S c c'∧Inv (i+1) c') (fun c'=>Mut S c c'∧Stop c')) f' c)
   (hdone:∀ D b,w.heap.size≤D→((∃ i,Fin i∧Inv i b)∨Stop b)→Mut S w b→b.heap[D]?=some (.deferred (some []))→T P ⟨k,mark D :: dv,none⟩ fn R d f b) :
   TB P ⟨k,dv,none⟩ fn R (.block id (.rangeFunc g ps.toArray assign body)) d f w :=
 C_rangeM S hg he hlen hit Inv Stop hI hX h0 GA hGA hassign hbody hdone
theorem T_rangeE {k id:Nat} {dv:List Deferred} {fn:Func} {R:Ending→World→Prop} {g:Operand} {ps:List Tmp} {assign body:Code} {gf:FuncId} {lb:Array Value}
   (S:Nat→Prop) (hg:ev ⟨k,dv,none⟩ f g=.func (.func gf) #[] lb) (he:Enters P gf)
   {Pre:Nat→List Value→World→Prop} {Fin:Nat→Prop} (hlen:∀ i vs a,Pre i vs a→vs.length=ps.length) (hit:z1j P gf lb w S Pre Fin)
   (Inv:Nat→World→Prop) (Stop:World→Prop) (hI:∀ i a b,Inv i a→Calm w.heap.size a b→Inv i b) (hX:∀ a b,Stop a→Calm w.heap.size a b→Stop b)
   (h0:Inv 0 w) (GA:Nat→List Value→World→Fr→World→Prop) (hGA:∀ i v a f' b,GA i v a f' b→Ext a b)
   (hassign:∀ l v i a,Inv i a→Mut S w a→Pre i v a→W P ⟨k,[],some l⟩ assign (fun e f' b=>e=.normal∧GA i v a f' b) (updL f ps v) a)
   (hbody:∀ l i v a f' b c,Inv i c→Mut S w c→Pre i v a→GA i v a f' b→Calm w.heap.size a c→Calm w.heap.size b c→W P ⟨k,[],some l⟩ body (roundM id (fun c'=>Mut S c c'∧Inv (i+1) c') (fun c'=>Mut S c c'∧Stop c')) f' c)
   (hdone:∀ D b,w.heap.size≤D→((∃ i,Fin i∧Inv i b)∨Stop b)→Mut S w b→b.heap[D]?=some (.deferred (some []))→endQ P ⟨k,mark D :: dv,none⟩ fn R .normal f b) :
   T P ⟨k,dv,none⟩ fn R (.block id (.rangeFunc g ps.toArray assign body)) f w :=
 C_rangeM S hg he hlen hit Inv Stop hI hX h0 GA hGA hassign hbody fun D b h1 h2 h3 h4=>q6y (n:=⟨k,mark D :: dv,none⟩) .normal _ _ ⟨f,rfl,hdone D b h1 h2 h3 h4⟩
theorem z1a {fn:Func} {R:Ending→World→Prop} {l:List ResultVar} {vs:List Value} {B:Nat} (hr:fn.results=l.toArray):∀ (Ds:List Nat) (w:World),Ds.Nodup→(∀ D∈Ds,B≤D∧w.heap[D]?=some (.deferred (some [])))→(∀ w',Calm B w w'→Res P n f w' l vs∧R (.returned (z0w vs)) w')→q7s P fn R (arr n f) (Ds.map mark) w
 | [],w,_,_,h=>by
   obtain ⟨h1,h2⟩:=h w (Calm.refl w);exact q6v hr h1 h2
 | D :: Ds,w,hnd,hD,h=>by
   obtain ⟨hB,hd⟩:=hD D (by simp);have hnd':=List.nodup_cons.1 hnd;refine ⟨D,rfl,hd,z1a hr Ds _ hnd'.2 (fun D' h'=>⟨(hD D' (by simp [h'])).1,?_⟩) fun w' hc=>h w' ?_⟩
   · rw [World.putObj_heap_other (fun e=>hnd'.1 (by rw [← e];exact h'))];exact (hD D' (by simp [h'])).2
   · exact (Calm.of_book (Book.put _ hB hd Y)).trans hc
theorem z0r {fn:Func} {R:Ending→World→Prop} {l:List ResultVar} {vs:List Value} (B:Nat) (Ds:List Nat) (hr:fn.results=l.toArray) (hn:n.dv=Ds.map mark) (hnd:Ds.Nodup) (hD:∀ D∈Ds,B≤D∧w.heap[D]?=some (.deferred (some [])))
   (h:∀ w',Calm B w w'→Res P n f w' l vs∧R (.returned (z0w vs)) w'):endQ P n fn R .ret f w:=by
 show q7s P fn R (arr n f) n.dv w;rw [hn];exact z1a hr Ds w hnd hD h
theorem endQ_marksE {fn:Func} {R:Ending→World→Prop} {l:List ResultVar} {vs:List Value} (B:Nat) (Ds:List Nat) (hr:fn.results=l.toArray) (hn:n.dv=Ds.map mark) (hnd:Ds.Nodup) (hD:∀ D∈Ds,B≤D∧w.heap[D]?=some (.deferred (some [])))
   (h:∀ w',Calm B w w'→Res P n f w' l vs∧R (.returned (z0w vs)) w'):endQ P n fn R .normal f w:=z0r (f:=f) B Ds hr hn hnd hD h
end Go.Proofs.K
namespace Go.Proofs.K
open Go.RowKit
variable {P:Program} {n:NN} {Q:Exit→Fr→World→Prop} {f:Fr} {w:World} {ops:Array Oper} {rest:List Oper}
structure KeepTy (B g:Nat) (T:TypeId) (a b:World):Prop where
 size:a.heap.size≤b.heap.size
 same:∀ k c t fz,k ≠ g→(k < B∨t ≠ T)→a.heap[k]?=some (.cells c t fz)→b.heap[k]?=some (.cells c t fz)
section
variable {B g:Nat} {T:TypeId} {a b c:World}
theorem KeepTy.trans (h:KeepTy B g T a b) (k:KeepTy B g T b c):KeepTy B g T a c:=⟨Nat.le_trans h.size k.size,fun i cs t fz hi ht e=>k.same i cs t fz hi ht (h.same i cs t fz hi ht e)⟩
theorem KeepTy.of_ext (E:Ext a b):KeepTy B g T a b:=⟨E.size,fun _ _ _ _ _ _ e=>E.heap e⟩
theorem KeepTy.refl (a:World):KeepTy B g T a a:=KeepTy.of_ext (Ext.refl a)
theorem KeepTy.of_grown {row:Option Nat} (G:a.grownBy b row) (h:∀ q,row=some q→q=g∨(B≤q∧∃ cs fz,a.heap[q]?=some (.cells cs T fz))):KeepTy B g T a b :=
 ⟨G.size,fun k cs t fz hk ht e=>by
   refine (G.block k (q2b e) fun hr=>?_).trans e
   rcases h k hr.symm with rfl | ⟨hB,cs',fz',e'⟩
   · exact hk Y
   · rw [e] at e'
     cases e'
     rcases ht with ht | ht
     · omega
     · exact ht Y⟩
theorem KeepTy.blk {k:Nat} {t:TypeId} {cs:List Value} (h:KeepTy B g T a b) (hB:Blk a k t cs) (hk:k ≠ g) (ht:k < B∨t ≠ T):Blk b k t cs:=h.same k _ t _ hk ht hB
theorem KeepTy.cell {p:Addr} {v:Value} (h:KeepTy B g T a b) (hp:p.block ≠ g) (hB:p.block < B) (hv:a.cell? p=some v):b.cell? p=some v:=by
 obtain ⟨c,t,fz,e⟩:=q4i hv;have e':=h.same p.block c t fz hp (.inl hB) e;have:b.cell? p=a.cell? p:=by
   unfold World.cell?;rw [e,e']
 rw [this];exact hv
theorem q3m {base e size m:Nat} {v:Value} {xs:List Value} (h:a.ownsRow base e size v m xs):∀ q,v.ownBlock=some q→base≤q∧∃ cs fz,a.heap[q]?=some (.cells cs e fz):=by
 intro q hq;rcases h.2 with ⟨rfl,_⟩ | ⟨g',cap,cur,rfl,hb,hg,_⟩
 · cases hq
 · obtain rfl:g'=q:=Option.some.inj hq;exact ⟨hb,_,_,hg⟩
end
section
variable {d:Option Tmp} {t ty e:TypeId} {pos:String} {af:Array Edge} {x:Operand} {g:Option (Nat × Bool)} {w0:World}
end
section
variable {d:Option Tmp} {t ty e:TypeId} {pos:String} {af:Array Edge} {x y:Operand} {g:Option (Nat × Bool)} {w0:World}
end
section
variable {R:Nat→World→World→Prop} {A:Nat→World→Prop} {Fin:List Oper→(Rho→Fr)→(Rho→Nat→World→Prop)→Prop} {k:Nat} {E:List Ent} {g:Rho→Fr} {H:Rho→Nat→World→Prop} {d:Tmp} {t:TypeId} {pos:String} {af:Array Edge}
theorem DW_frc {F:Value→World→Prop} {id:FuncId} [TFun P id] {x:Operand} {l:List Operand} {vl:Rho→List Value} {tys:Array TypeId} {first cap:Array Value} (hx:∀ r,ev n (g r) x=.func (.func id) first cap) (ha:∀ r,l.map (ev n (g r))=vl r)
   (hc:∀ r w,A k w→(∀ j,td ops k j=true→H r j w)→Calls P id (first++(vl r).toArray++cap) w fun e w'=>∃ v,e=.returned v∧R k w w'∧F v w') (hF:∀ i v w w',i ≠ k→td ops k i=false→R i w w'→F v w→F v w')
   (hr:DW R P n ops A Fin rest (k+1) E (fun r=>upd (g r) d (r k)) (fun r j w=>bif Nat.beq j k then F (r k) w else H r j w)):DW R P n ops A Fin (⟨some d,.call ⟨.value x,l.toArray,tys⟩,t,pos,af,none⟩ :: rest) k (.op (fun r w=>F (r k) w) :: E) g H :=
 .op (fun r w hA hH=>⟨q5t Y,q8v (X_clo (hx r) (ha r)) (hc r w hA hH) fun e w' ⟨v,he,hE,hv⟩=>⟨v,he,hE,by rw [q6b];exact hv⟩⟩) (fun i r w w' h1 h2 hE h=>hF i _ _ _ h1 h2 hE h) hr
theorem DW_storeD {k0 q:Nat} {ty:TypeId} {x y:Operand} {w0:World} {Pre:World→Prop} {F:Rho→World→Prop}
   (hX:∀ r w,AG ops k0 q Pre w0 k0 w→(∀ j,td ops k0 j=true→H r j w)→∃ w',X P n ⟨none,.store ty x y,t,pos,af,none⟩ (g r) w=.ok .skip w'∧w.grownBy w' (some q)∧F r w')
   (hF:∀ r w w',Ext w w'→F r w→F r w') (hi:∀ r v,F (rset r k0 v)=F r)
   (hr:DW (RG k0 q) P n ops (AG ops k0 q Pre w0) Fin rest (k0+1) E g (fun r i w=>bif Nat.beq i k0 then F r w else H r i w)) :
   DW (RG k0 q) P n ops (AG ops k0 q Pre w0) Fin (⟨none,.store ty x y,t,pos,af,none⟩ :: rest) k0 (.op (fun r w=>F r w) :: E) g H:=by
 refine .op (fun r w hA hH=>⟨rfl,?_⟩) (fun i r w w' h1 h2 hR h=>hF r w w' (hR.other h1) h) hr;obtain ⟨w',h1,h2,h3⟩:=hX r w hA hH;exact q8u h1 ⟨.inr ⟨rfl,h2⟩,by rw [hi];exact h3⟩
end
end Go.Proofs.K
namespace Go.Proofs.YtlcnkadkbcoadaaGreatDoor
open Go.Proofs.K
set_option maxRecDepth 100000
instance:TMixed Tryz.prog:=⟨by kernel_rfl⟩
instance:TInt Tryz.prog 2 .i64:=⟨Tryz.underlying2⟩
theorem inf2:(Tryz.prog.info? 2).map (fun i=>(i.zero,i.size,i.bytes))=some (some (.int .i64 0),1,8):=by kernel_rfl
instance:TZero Tryz.prog 2 [.int .i64 0]:=q2l inf2 (by rfl)
instance:TSz Tryz.prog 2 1:=⟨q2r inf2⟩
instance:TElem Tryz.prog 2 1 8:=⟨_,inf2,rfl,by decide⟩
instance:TOne Tryz.prog 2:=⟨⟨_,Tryz.underlying2,rfl⟩,q2r inf2⟩
instance:TInt Tryz.prog 3 .i64:=⟨Tryz.underlying3⟩
theorem inf3:(Tryz.prog.info? 3).map (fun i=>(i.zero,i.size,i.bytes))=some (some (.int .i64 0),1,8):=by kernel_rfl
instance:TZero Tryz.prog 3 [.int .i64 0]:=q2l inf3 (by rfl)
instance:TSz Tryz.prog 3 1:=⟨q2r inf3⟩
instance:TOne Tryz.prog 3:=⟨⟨_,Tryz.underlying3,rfl⟩,q2r inf3⟩
theorem inf4:(Tryz.prog.info? 4).map (fun i=>(i.zero,i.size,i.bytes))=some (some (.bool false),1,1):=by kernel_rfl
instance:TZero Tryz.prog 4 [.bool false]:=q2l inf4 (by rfl)
instance:TSz Tryz.prog 4 1:=⟨q2r inf4⟩
instance:TElem Tryz.prog 4 1 1:=⟨_,inf4,rfl,by decide⟩
instance:TOne Tryz.prog 4:=⟨⟨_,Tryz.underlying4,rfl⟩,q2r inf4⟩
instance:TInt Tryz.prog 5 .u8:=⟨Tryz.underlying5⟩
theorem inf5:(Tryz.prog.info? 5).map (fun i=>(i.zero,i.size,i.bytes))=some (some (.int .u8 0),1,1):=by kernel_rfl
instance:TInfo Tryz.prog 5 1 1 (.int .u8 0):=⟨inf5⟩
instance:TZero Tryz.prog 5 [.int .u8 0]:=q2l inf5 (by rfl)
instance:TSz Tryz.prog 5 1:=⟨q2r inf5⟩
instance:TElem Tryz.prog 5 1 1:=⟨_,inf5,rfl,by decide⟩
instance:TOne Tryz.prog 5:=⟨⟨_,Tryz.underlying5,rfl⟩,q2r inf5⟩
instance:TStr Tryz.prog 9:=⟨Tryz.underlying9⟩
theorem inf9:(Tryz.prog.info? 9).map (fun i=>(i.zero,i.size,i.bytes))=some (some (.string ByteArray.empty),1,16):=by kernel_rfl
instance:TZero Tryz.prog 9 [.string ByteArray.empty]:=q2l inf9 (by rfl)
instance:TSz Tryz.prog 9 1:=⟨q2r inf9⟩
instance:TOne Tryz.prog 9:=⟨⟨_,Tryz.underlying9,rfl⟩,q2r inf9⟩
instance:TSlice Tryz.prog 22 76:=⟨Tryz.underlying22⟩
instance:TSlice Tryz.prog 24 81:=⟨Tryz.underlying24⟩
theorem inf24:(Tryz.prog.info? 24).map (fun i=>(i.zero,i.size,i.bytes))=some (some (.slice none 0 0),1,24):=by kernel_rfl
instance:TOne Tryz.prog 24:=⟨⟨_,Tryz.underlying24,rfl⟩,q2r inf24⟩
instance:TSlice Tryz.prog 25 4:=⟨Tryz.underlying25⟩
theorem inf25:(Tryz.prog.info? 25).map (fun i=>(i.zero,i.size,i.bytes))=some (some (.slice none 0 0),1,24):=by kernel_rfl
instance:TOne Tryz.prog 25:=⟨⟨_,Tryz.underlying25,rfl⟩,q2r inf25⟩
theorem inf27:(Tryz.prog.info? 27).map (fun i=>(i.zero,i.size,i.bytes))=some (some (.agg ([[.slice none 0 0],[.slice none 0 0]].flatten).toArray),2,48):=by kernel_rfl
instance:TZero Tryz.prog 27 [[.slice none 0 0],[.slice none 0 0]].flatten:=q2l inf27 (by rfl)
instance:TAgg Tryz.prog 27 2:=⟨⟨_,Tryz.underlying27,rfl⟩,q2r inf27⟩
instance:TFld Tryz.prog 27 0 0 24:=⟨⟨_,_,Tryz.underlying27,rfl,rfl,rfl⟩,q2o (k:=0) (by kernel_rfl)⟩
instance:TFld Tryz.prog 27 1 1 25:=⟨⟨_,_,Tryz.underlying27,rfl,rfl,rfl⟩,q2o (k:=0) (by kernel_rfl)⟩
instance:TSegs Tryz.prog 27 [[.slice none 0 0],[.slice none 0 0]]:=q3r Tryz.underlying27 (by kernel_rfl) (by kernel_rfl)
instance:TSlice Tryz.prog 29 9:=⟨Tryz.underlying29⟩
instance:TSlice Tryz.prog 30 94:=⟨Tryz.underlying30⟩
theorem inf30:(Tryz.prog.info? 30).map (fun i=>(i.zero,i.size,i.bytes))=some (some (.slice none 0 0),1,24):=by kernel_rfl
instance:TOne Tryz.prog 30:=⟨⟨_,Tryz.underlying30,rfl⟩,q2r inf30⟩
theorem inf32:(Tryz.prog.info? 32).map (fun i=>(i.zero,i.size,i.bytes))=some (some (.agg ([[.int .i64 0],[.int .i64 0],[.int .i64 0],[.slice none 0 0]].flatten).toArray),4,48):=by kernel_rfl
instance:TZero Tryz.prog 32 [[.int .i64 0],[.int .i64 0],[.int .i64 0],[.slice none 0 0]].flatten:=q2l inf32 (by rfl)
instance:TAgg Tryz.prog 32 4:=⟨⟨_,Tryz.underlying32,rfl⟩,q2r inf32⟩
instance:TFld Tryz.prog 32 0 0 3:=⟨⟨_,_,Tryz.underlying32,rfl,rfl,rfl⟩,q2o (k:=0) (by kernel_rfl)⟩
instance:TFld Tryz.prog 32 1 1 3:=⟨⟨_,_,Tryz.underlying32,rfl,rfl,rfl⟩,q2o (k:=0) (by kernel_rfl)⟩
instance:TFld Tryz.prog 32 2 2 3:=⟨⟨_,_,Tryz.underlying32,rfl,rfl,rfl⟩,q2o (k:=0) (by kernel_rfl)⟩
instance:TFld Tryz.prog 32 3 3 30:=⟨⟨_,_,Tryz.underlying32,rfl,rfl,rfl⟩,q2o (k:=0) (by kernel_rfl)⟩
instance:TSegs Tryz.prog 32 [[.int .i64 0],[.int .i64 0],[.int .i64 0],[.slice none 0 0]]:=q3r Tryz.underlying32 (by kernel_rfl) (by kernel_rfl)
instance:TInt Tryz.prog 33 .i64:=⟨Tryz.underlying33⟩
theorem inf33:(Tryz.prog.info? 33).map (fun i=>(i.zero,i.size,i.bytes))=some (some (.int .i64 0),1,8):=by kernel_rfl
instance:TZero Tryz.prog 33 [.int .i64 0]:=q2l inf33 (by rfl)
instance:TOne Tryz.prog 33:=⟨⟨_,Tryz.underlying33,rfl⟩,q2r inf33⟩
instance:TSlice Tryz.prog 36 2:=⟨Tryz.underlying36⟩
theorem inf36:(Tryz.prog.info? 36).map (fun i=>(i.zero,i.size,i.bytes))=some (some (.slice none 0 0),1,24):=by kernel_rfl
instance:TOne Tryz.prog 36:=⟨⟨_,Tryz.underlying36,rfl⟩,q2r inf36⟩
theorem inf38:(Tryz.prog.info? 38).map (fun i=>(i.zero,i.size,i.bytes))=some (some (.agg ([[.slice none 0 0]].flatten).toArray),1,24):=by kernel_rfl
instance:TZero Tryz.prog 38 [[.slice none 0 0]].flatten:=q2l inf38 (by rfl)
instance:TAgg Tryz.prog 38 1:=⟨⟨_,Tryz.underlying38,rfl⟩,q2r inf38⟩
instance:TSegs Tryz.prog 38 [[.slice none 0 0]]:=q3r Tryz.underlying38 (by kernel_rfl) (by kernel_rfl)
instance:TArr Tryz.prog 42 32 5:=⟨Tryz.underlying42⟩
theorem inf42:(Tryz.prog.info? 42).map (fun i=>(i.zero,i.size,i.bytes))=some (some (.agg ((List.replicate 32 [.int .u8 0]).flatten).toArray),32,32):=by kernel_rfl
instance:TZero Tryz.prog 42 (List.replicate 32 [.int .u8 0]).flatten:=q2l inf42 (by rfl)
instance:TSz Tryz.prog 42 32:=⟨q2r inf42⟩
instance:TElem Tryz.prog 42 32 32:=⟨_,inf42,rfl,by decide⟩
instance:TAgg Tryz.prog 42 32:=⟨⟨_,Tryz.underlying42,rfl⟩,q2r inf42⟩
theorem inf46:(Tryz.prog.info? 46).map (fun i=>(i.zero,i.size,i.bytes))=some (some (.agg ([[.int .i64 0],[.int .i64 0],[.int .i64 0],[.int .i64 0]].flatten).toArray),4,32):=by kernel_rfl
instance:TZero Tryz.prog 46 [[.int .i64 0],[.int .i64 0],[.int .i64 0],[.int .i64 0]].flatten:=q2l inf46 (by rfl)
instance:TAgg Tryz.prog 46 4:=⟨⟨_,Tryz.underlying46,rfl⟩,q2r inf46⟩
instance:TFld Tryz.prog 46 0 0 3:=⟨⟨_,_,Tryz.underlying46,rfl,rfl,rfl⟩,q2o (k:=0) (by kernel_rfl)⟩
instance:TFld Tryz.prog 46 1 1 3:=⟨⟨_,_,Tryz.underlying46,rfl,rfl,rfl⟩,q2o (k:=0) (by kernel_rfl)⟩
instance:TFld Tryz.prog 46 2 2 3:=⟨⟨_,_,Tryz.underlying46,rfl,rfl,rfl⟩,q2o (k:=0) (by kernel_rfl)⟩
instance:TFld Tryz.prog 46 3 3 3:=⟨⟨_,_,Tryz.underlying46,rfl,rfl,rfl⟩,q2o (k:=0) (by kernel_rfl)⟩
instance:TSegs Tryz.prog 46 [[.int .i64 0],[.int .i64 0],[.int .i64 0],[.int .i64 0]]:=q3r Tryz.underlying46 (by kernel_rfl) (by kernel_rfl)
instance:TSlice Tryz.prog 47 55:=⟨Tryz.underlying47⟩
instance:TSlice Tryz.prog 48 55:=⟨Tryz.underlying48⟩
theorem inf48:(Tryz.prog.info? 48).map (fun i=>(i.zero,i.size,i.bytes))=some (some (.slice none 0 0),1,24):=by kernel_rfl
instance:TOne Tryz.prog 48:=⟨⟨_,Tryz.underlying48,rfl⟩,q2r inf48⟩
instance:TSlice Tryz.prog 49 161:=⟨Tryz.underlying49⟩
theorem inf49:(Tryz.prog.info? 49).map (fun i=>(i.zero,i.size,i.bytes))=some (some (.slice none 0 0),1,24):=by kernel_rfl
instance:TOne Tryz.prog 49:=⟨⟨_,Tryz.underlying49,rfl⟩,q2r inf49⟩
theorem inf51:(Tryz.prog.info? 51).map (fun i=>(i.zero,i.size,i.bytes))=some (some (.agg ([[.slice none 0 0],[.slice none 0 0],[.slice none 0 0]].flatten).toArray),3,72):=by kernel_rfl
instance:TAgg Tryz.prog 51 3:=⟨⟨_,Tryz.underlying51,rfl⟩,q2r inf51⟩
instance:TFld Tryz.prog 51 0 0 48:=⟨⟨_,_,Tryz.underlying51,rfl,rfl,rfl⟩,q2o (k:=0) (by kernel_rfl)⟩
instance:TFld Tryz.prog 51 1 1 49:=⟨⟨_,_,Tryz.underlying51,rfl,rfl,rfl⟩,q2o (k:=0) (by kernel_rfl)⟩
instance:TFld Tryz.prog 51 2 2 49:=⟨⟨_,_,Tryz.underlying51,rfl,rfl,rfl⟩,q2o (k:=0) (by kernel_rfl)⟩
instance:TInt Tryz.prog 52 .u64:=⟨Tryz.underlying52⟩
theorem inf52:(Tryz.prog.info? 52).map (fun i=>(i.zero,i.size,i.bytes))=some (some (.int .u64 0),1,8):=by kernel_rfl
instance:TZero Tryz.prog 52 [.int .u64 0]:=q2l inf52 (by rfl)
instance:TSz Tryz.prog 52 1:=⟨q2r inf52⟩
instance:TElem Tryz.prog 52 1 8:=⟨_,inf52,rfl,by decide⟩
instance:TOne Tryz.prog 52:=⟨⟨_,Tryz.underlying52,rfl⟩,q2r inf52⟩
theorem inf54:(Tryz.prog.info? 54).map (fun i=>(i.zero,i.size,i.bytes))=some (some (.agg ([[.int .u64 0],[.int .u64 0]].flatten).toArray),2,16):=by kernel_rfl
instance:TZero Tryz.prog 54 [[.int .u64 0],[.int .u64 0]].flatten:=q2l inf54 (by rfl)
instance:TSz Tryz.prog 54 2:=⟨q2r inf54⟩
instance:TElem Tryz.prog 54 2 16:=⟨_,inf54,rfl,by decide⟩
instance:TAgg Tryz.prog 54 2:=⟨⟨_,Tryz.underlying54,rfl⟩,q2r inf54⟩
instance:TFld Tryz.prog 54 0 0 52:=⟨⟨_,_,Tryz.underlying54,rfl,rfl,rfl⟩,q2o (k:=0) (by kernel_rfl)⟩
instance:TFld Tryz.prog 54 1 1 52:=⟨⟨_,_,Tryz.underlying54,rfl,rfl,rfl⟩,q2o (k:=0) (by kernel_rfl)⟩
instance:TSegs Tryz.prog 54 [[.int .u64 0],[.int .u64 0]]:=q3r Tryz.underlying54 (by kernel_rfl) (by kernel_rfl)
instance:TSlice Tryz.prog 55 54:=⟨Tryz.underlying55⟩
theorem inf55:(Tryz.prog.info? 55).map (fun i=>(i.zero,i.size,i.bytes))=some (some (.slice none 0 0),1,24):=by kernel_rfl
instance:TZero Tryz.prog 55 [.slice none 0 0]:=q2l inf55 (by rfl)
instance:TSz Tryz.prog 55 1:=⟨q2r inf55⟩
instance:TElem Tryz.prog 55 1 24:=⟨_,inf55,rfl,by decide⟩
instance:TOne Tryz.prog 55:=⟨⟨_,Tryz.underlying55,rfl⟩,q2r inf55⟩
instance:TSlice Tryz.prog 56 105:=⟨Tryz.underlying56⟩
theorem inf56:(Tryz.prog.info? 56).map (fun i=>(i.zero,i.size,i.bytes))=some (some (.slice none 0 0),1,24):=by kernel_rfl
instance:TZero Tryz.prog 56 [.slice none 0 0]:=q2l inf56 (by rfl)
instance:TSz Tryz.prog 56 1:=⟨q2r inf56⟩
instance:TOne Tryz.prog 56:=⟨⟨_,Tryz.underlying56,rfl⟩,q2r inf56⟩
instance:TSlice Tryz.prog 57 42:=⟨Tryz.underlying57⟩
theorem inf57:(Tryz.prog.info? 57).map (fun i=>(i.zero,i.size,i.bytes))=some (some (.slice none 0 0),1,24):=by kernel_rfl
instance:TOne Tryz.prog 57:=⟨⟨_,Tryz.underlying57,rfl⟩,q2r inf57⟩
instance:TFld Tryz.prog 59 0 0 57:=⟨⟨_,_,Tryz.underlying59,rfl,rfl,rfl⟩,q2o (k:=0) (by kernel_rfl)⟩
instance:TFld Tryz.prog 61 0 0 55:=⟨⟨_,_,Tryz.underlying61,rfl,rfl,rfl⟩,q2o (k:=0) (by kernel_rfl)⟩
instance:TFld Tryz.prog 61 1 1 55:=⟨⟨_,_,Tryz.underlying61,rfl,rfl,rfl⟩,q2o (k:=0) (by kernel_rfl)⟩
instance:TFld Tryz.prog 61 2 2 56:=⟨⟨_,_,Tryz.underlying61,rfl,rfl,rfl⟩,q2o (k:=0) (by kernel_rfl)⟩
instance:TFld Tryz.prog 61 3 3 59:=⟨⟨_,_,Tryz.underlying61,rfl,rfl,rfl⟩,q2o (k:=0) (by kernel_rfl)⟩
theorem inf63:(Tryz.prog.info? 63).map (fun i=>(i.zero,i.size,i.bytes))=some (some (.agg ([[.string ByteArray.empty],[.int .i64 0],(List.replicate 32 [.int .u8 0]).flatten,([.int .i64 0]++[.int .i64 0]++[.int .i64 0]++[.int .i64 0]),[.slice none 0 0],([.slice none 0 0]++[.slice none 0 0]++[.slice none 0 0]),[.slice none 0 0],([.int .u64 0]++[.int .u64 0]),([.slice none 0 0]++[.slice none 0 0]++[.slice none 0 0]++([.slice none 0 0]))].flatten).toArray),49,320):=by kernel_rfl
instance:TZero Tryz.prog 63 [[.string ByteArray.empty],[.int .i64 0],(List.replicate 32 [.int .u8 0]).flatten,([.int .i64 0]++[.int .i64 0]++[.int .i64 0]++[.int .i64 0]),[.slice none 0 0],([.slice none 0 0]++[.slice none 0 0]++[.slice none 0 0]),[.slice none 0 0],([.int .u64 0]++[.int .u64 0]),([.slice none 0 0]++[.slice none 0 0]++[.slice none 0 0]++([.slice none 0 0]))].flatten:=q2l inf63 (by rfl)
instance:TAgg Tryz.prog 63 49:=⟨⟨_,Tryz.underlying63,rfl⟩,q2r inf63⟩
instance:TFld Tryz.prog 63 0 0 9:=⟨⟨_,_,Tryz.underlying63,rfl,rfl,rfl⟩,q2o (k:=0) (by kernel_rfl)⟩
instance:TFld Tryz.prog 63 1 1 3:=⟨⟨_,_,Tryz.underlying63,rfl,rfl,rfl⟩,q2o (k:=0) (by kernel_rfl)⟩
instance:TFld Tryz.prog 63 2 2 42:=⟨⟨_,_,Tryz.underlying63,rfl,rfl,rfl⟩,q2o (k:=31) (by kernel_rfl)⟩
instance:TFld Tryz.prog 63 3 34 46:=⟨⟨_,_,Tryz.underlying63,rfl,rfl,rfl⟩,q2o (k:=3) (by kernel_rfl)⟩
instance:TFld Tryz.prog 63 4 38 36:=⟨⟨_,_,Tryz.underlying63,rfl,rfl,rfl⟩,q2o (k:=0) (by kernel_rfl)⟩
instance:TFld Tryz.prog 63 5 39 51:=⟨⟨_,_,Tryz.underlying63,rfl,rfl,rfl⟩,q2o (k:=2) (by kernel_rfl)⟩
instance:TFld Tryz.prog 63 6 42 48:=⟨⟨_,_,Tryz.underlying63,rfl,rfl,rfl⟩,q2o (k:=0) (by kernel_rfl)⟩
instance:TFld Tryz.prog 63 7 43 54:=⟨⟨_,_,Tryz.underlying63,rfl,rfl,rfl⟩,q2o (k:=1) (by kernel_rfl)⟩
instance:TFld Tryz.prog 63 8 45 61:=⟨⟨_,_,Tryz.underlying63,rfl,rfl,rfl⟩,q2o (k:=3) (by kernel_rfl)⟩
instance:TSegs Tryz.prog 63 [[.string ByteArray.empty],[.int .i64 0],(List.replicate 32 [.int .u8 0]).flatten,([.int .i64 0]++[.int .i64 0]++[.int .i64 0]++[.int .i64 0]),[.slice none 0 0],([.slice none 0 0]++[.slice none 0 0]++[.slice none 0 0]),[.slice none 0 0],([.int .u64 0]++[.int .u64 0]),([.slice none 0 0]++[.slice none 0 0]++[.slice none 0 0]++([.slice none 0 0]))]:=q3r Tryz.underlying63 (by kernel_rfl) (by kernel_rfl)
instance:TSlice Tryz.prog 69 5:=⟨Tryz.underlying69⟩
theorem inf69:(Tryz.prog.info? 69).map (fun i=>(i.zero,i.size,i.bytes))=some (some (.slice none 0 0),1,24):=by kernel_rfl
instance:TZero Tryz.prog 69 [.slice none 0 0]:=q2l inf69 (by rfl)
instance:TSz Tryz.prog 69 1:=⟨q2r inf69⟩
instance:TElem Tryz.prog 69 1 24:=⟨_,inf69,rfl,by decide⟩
instance:TOne Tryz.prog 69:=⟨⟨_,Tryz.underlying69,rfl⟩,q2r inf69⟩
instance:TArr Tryz.prog 74 3 5:=⟨Tryz.underlying74⟩
theorem inf74:(Tryz.prog.info? 74).map (fun i=>(i.zero,i.size,i.bytes))=some (some (.agg ((List.replicate 3 [.int .u8 0]).flatten).toArray),3,3):=by kernel_rfl
instance:TAgg Tryz.prog 74 3:=⟨⟨_,Tryz.underlying74,rfl⟩,q2r inf74⟩
theorem inf76:(Tryz.prog.info? 76).map (fun i=>(i.zero,i.size,i.bytes))=some (some (.agg ([(List.replicate 3 [.int .u8 0]).flatten,[.bool false]].flatten).toArray),4,4):=by kernel_rfl
instance:TSz Tryz.prog 76 4:=⟨q2r inf76⟩
instance:TFld Tryz.prog 76 0 0 74:=⟨⟨_,_,Tryz.underlying76,rfl,rfl,rfl⟩,q2o (k:=2) (by kernel_rfl)⟩
instance:TFld Tryz.prog 76 1 3 4:=⟨⟨_,_,Tryz.underlying76,rfl,rfl,rfl⟩,q2o (k:=0) (by kernel_rfl)⟩
theorem inf81:(Tryz.prog.info? 81).map (fun i=>(i.zero,i.size,i.bytes))=some (some (.agg ([[.int .i64 0],[.int .i64 0],[.int .i64 0],[.int .i64 0]].flatten).toArray),4,32):=by kernel_rfl
instance:TZero Tryz.prog 81 [[.int .i64 0],[.int .i64 0],[.int .i64 0],[.int .i64 0]].flatten:=q2l inf81 (by rfl)
instance:TSz Tryz.prog 81 4:=⟨q2r inf81⟩
instance:TElem Tryz.prog 81 4 32:=⟨_,inf81,rfl,by decide⟩
instance:TAgg Tryz.prog 81 4:=⟨⟨_,Tryz.underlying81,rfl⟩,q2r inf81⟩
instance:TFld Tryz.prog 81 0 0 3:=⟨⟨_,_,Tryz.underlying81,rfl,rfl,rfl⟩,q2o (k:=0) (by kernel_rfl)⟩
instance:TFld Tryz.prog 81 1 1 3:=⟨⟨_,_,Tryz.underlying81,rfl,rfl,rfl⟩,q2o (k:=0) (by kernel_rfl)⟩
instance:TFld Tryz.prog 81 2 2 3:=⟨⟨_,_,Tryz.underlying81,rfl,rfl,rfl⟩,q2o (k:=0) (by kernel_rfl)⟩
instance:TFld Tryz.prog 81 3 3 3:=⟨⟨_,_,Tryz.underlying81,rfl,rfl,rfl⟩,q2o (k:=0) (by kernel_rfl)⟩
instance:TSegs Tryz.prog 81 [[.int .i64 0],[.int .i64 0],[.int .i64 0],[.int .i64 0]]:=q3r Tryz.underlying81 (by kernel_rfl) (by kernel_rfl)
instance:TSlice Tryz.prog 84 98:=⟨Tryz.underlying84⟩
theorem inf84:(Tryz.prog.info? 84).map (fun i=>(i.zero,i.size,i.bytes))=some (some (.slice none 0 0),1,24):=by kernel_rfl
instance:TOne Tryz.prog 84:=⟨⟨_,Tryz.underlying84,rfl⟩,q2r inf84⟩
instance:TFld Tryz.prog 87 0 0 84:=⟨⟨_,_,Tryz.underlying87,rfl,rfl,rfl⟩,q2o (k:=0) (by kernel_rfl)⟩
instance:TFld Tryz.prog 87 1 1 3:=⟨⟨_,_,Tryz.underlying87,rfl,rfl,rfl⟩,q2o (k:=0) (by kernel_rfl)⟩
instance:TFld Tryz.prog 87 2 2 33:=⟨⟨_,_,Tryz.underlying87,rfl,rfl,rfl⟩,q2o (k:=0) (by kernel_rfl)⟩
instance:TSegs Tryz.prog 87 [[.slice none 0 0],[.int .i64 0],[.int .i64 0]]:=q3r Tryz.underlying87 (by kernel_rfl) (by kernel_rfl)
instance:TSlice Tryz.prog 94 174:=⟨Tryz.underlying94⟩
theorem inf94:(Tryz.prog.info? 94).map (fun i=>(i.zero,i.size,i.bytes))=some (some (.slice none 0 0),1,24):=by kernel_rfl
instance:TZero Tryz.prog 94 [.slice none 0 0]:=q2l inf94 (by rfl)
instance:TSz Tryz.prog 94 1:=⟨q2r inf94⟩
instance:TElem Tryz.prog 94 1 24:=⟨_,inf94,rfl,by decide⟩
instance:TOne Tryz.prog 94:=⟨⟨_,Tryz.underlying94,rfl⟩,q2r inf94⟩
theorem inf98:(Tryz.prog.info? 98).map (fun i=>(i.zero,i.size,i.bytes))=some (some (.agg ([[.int .i64 0],[.string ByteArray.empty],[.int .i64 0]].flatten).toArray),3,32):=by kernel_rfl
instance:TZero Tryz.prog 98 [[.int .i64 0],[.string ByteArray.empty],[.int .i64 0]].flatten:=q2l inf98 (by rfl)
instance:TSz Tryz.prog 98 3:=⟨q2r inf98⟩
instance:TElem Tryz.prog 98 3 32:=⟨_,inf98,rfl,by decide⟩
instance:TAgg Tryz.prog 98 3:=⟨⟨_,Tryz.underlying98,rfl⟩,q2r inf98⟩
instance:TFld Tryz.prog 98 0 0 3:=⟨⟨_,_,Tryz.underlying98,rfl,rfl,rfl⟩,q2o (k:=0) (by kernel_rfl)⟩
instance:TFld Tryz.prog 98 1 1 9:=⟨⟨_,_,Tryz.underlying98,rfl,rfl,rfl⟩,q2o (k:=0) (by kernel_rfl)⟩
instance:TFld Tryz.prog 98 2 2 3:=⟨⟨_,_,Tryz.underlying98,rfl,rfl,rfl⟩,q2o (k:=0) (by kernel_rfl)⟩
instance:TSegs Tryz.prog 98 [[.int .i64 0],[.string ByteArray.empty],[.int .i64 0]]:=q3r Tryz.underlying98 (by kernel_rfl) (by kernel_rfl)
instance:TSlice Tryz.prog 105 52:=⟨Tryz.underlying105⟩
theorem inf105:(Tryz.prog.info? 105).map (fun i=>(i.zero,i.size,i.bytes))=some (some (.slice none 0 0),1,24):=by kernel_rfl
instance:TInfo Tryz.prog 105 1 24 (.slice none 0 0):=⟨inf105⟩
instance:TZero Tryz.prog 105 [.slice none 0 0]:=q2l inf105 (by rfl)
instance:TSz Tryz.prog 105 1:=⟨q2r inf105⟩
instance:TElem Tryz.prog 105 1 24:=⟨_,inf105,rfl,by decide⟩
instance:TOne Tryz.prog 105:=⟨⟨_,Tryz.underlying105,rfl⟩,q2r inf105⟩
theorem inf107:(Tryz.prog.info? 107).map (fun i=>(i.zero,i.size,i.bytes))=some (some (.agg ([[.slice none 0 0],[.slice none 0 0],([.int .i64 0]++[.int .i64 0]++[.int .i64 0]++[.int .i64 0]),(List.replicate 32 [.int .u8 0]).flatten].flatten).toArray),38,112):=by kernel_rfl
instance:TZero Tryz.prog 107 [[.slice none 0 0],[.slice none 0 0],([.int .i64 0]++[.int .i64 0]++[.int .i64 0]++[.int .i64 0]),(List.replicate 32 [.int .u8 0]).flatten].flatten:=q2l inf107 (by rfl)
instance:TAgg Tryz.prog 107 38:=⟨⟨_,Tryz.underlying107,rfl⟩,q2r inf107⟩
instance:TFld Tryz.prog 107 3 6 42:=⟨⟨_,_,Tryz.underlying107,rfl,rfl,rfl⟩,q2o (k:=31) (by kernel_rfl)⟩
instance:TSegs Tryz.prog 107 [[.slice none 0 0],[.slice none 0 0],([.int .i64 0]++[.int .i64 0]++[.int .i64 0]++[.int .i64 0]),(List.replicate 32 [.int .u8 0]).flatten]:=q3r Tryz.underlying107 (by kernel_rfl) (by kernel_rfl)
instance:TFld Tryz.prog 146 0 0 69:=⟨⟨_,_,Tryz.underlying146,rfl,rfl,rfl⟩,q2o (k:=0) (by kernel_rfl)⟩
instance:TSegs Tryz.prog 146 [[.slice none 0 0]]:=q3r Tryz.underlying146 (by kernel_rfl) (by kernel_rfl)
instance:TFld Tryz.prog 149 0 0 69:=⟨⟨_,_,Tryz.underlying149,rfl,rfl,rfl⟩,q2o (k:=0) (by kernel_rfl)⟩
instance:TSegs Tryz.prog 149 [[.slice none 0 0]]:=q3r Tryz.underlying149 (by kernel_rfl) (by kernel_rfl)
instance:TSlice Tryz.prog 154 3:=⟨Tryz.underlying154⟩
theorem inf161:(Tryz.prog.info? 161).map (fun i=>(i.zero,i.size,i.bytes))=some (some (.agg ([[.slice none 0 0],([.int .u64 0]++[.int .u64 0]),([.int .u64 0]++[.int .u64 0]),[.slice none 0 0]].flatten).toArray),6,80):=by kernel_rfl
instance:TZero Tryz.prog 161 [[.slice none 0 0],([.int .u64 0]++[.int .u64 0]),([.int .u64 0]++[.int .u64 0]),[.slice none 0 0]].flatten:=q2l inf161 (by rfl)
instance:TSz Tryz.prog 161 6:=⟨q2r inf161⟩
instance:TElem Tryz.prog 161 6 80:=⟨_,inf161,rfl,by decide⟩
instance:TAgg Tryz.prog 161 6:=⟨⟨_,Tryz.underlying161,rfl⟩,q2r inf161⟩
instance:TFld Tryz.prog 161 0 0 48:=⟨⟨_,_,Tryz.underlying161,rfl,rfl,rfl⟩,q2o (k:=0) (by kernel_rfl)⟩
instance:TFld Tryz.prog 161 1 1 54:=⟨⟨_,_,Tryz.underlying161,rfl,rfl,rfl⟩,q2o (k:=1) (by kernel_rfl)⟩
instance:TFld Tryz.prog 161 2 3 54:=⟨⟨_,_,Tryz.underlying161,rfl,rfl,rfl⟩,q2o (k:=1) (by kernel_rfl)⟩
instance:TFld Tryz.prog 161 3 5 55:=⟨⟨_,_,Tryz.underlying161,rfl,rfl,rfl⟩,q2o (k:=0) (by kernel_rfl)⟩
instance:TSegs Tryz.prog 161 [[.slice none 0 0],([.int .u64 0]++[.int .u64 0]),([.int .u64 0]++[.int .u64 0]),[.slice none 0 0]]:=q3r Tryz.underlying161 (by kernel_rfl) (by kernel_rfl)
theorem inf174:(Tryz.prog.info? 174).map (fun i=>(i.zero,i.size,i.bytes))=some (some (.agg ([[.int .i64 0],[.int .i64 0],[.int .i64 0]].flatten).toArray),3,24):=by kernel_rfl
instance:TZero Tryz.prog 174 [[.int .i64 0],[.int .i64 0],[.int .i64 0]].flatten:=q2l inf174 (by rfl)
instance:TSz Tryz.prog 174 3:=⟨q2r inf174⟩
instance:TElem Tryz.prog 174 3 24:=⟨_,inf174,rfl,by decide⟩
instance:TAgg Tryz.prog 174 3:=⟨⟨_,Tryz.underlying174,rfl⟩,q2r inf174⟩
instance:TFld Tryz.prog 174 0 0 3:=⟨⟨_,_,Tryz.underlying174,rfl,rfl,rfl⟩,q2o (k:=0) (by kernel_rfl)⟩
instance:TFld Tryz.prog 174 1 1 3:=⟨⟨_,_,Tryz.underlying174,rfl,rfl,rfl⟩,q2o (k:=0) (by kernel_rfl)⟩
instance:TFld Tryz.prog 174 2 2 3:=⟨⟨_,_,Tryz.underlying174,rfl,rfl,rfl⟩,q2o (k:=0) (by kernel_rfl)⟩
instance:TSegs Tryz.prog 174 [[.int .i64 0],[.int .i64 0],[.int .i64 0]]:=q3r Tryz.underlying174 (by kernel_rfl) (by kernel_rfl)
instance:TFld Tryz.prog 185 0 0 9:=⟨⟨_,_,Tryz.underlying185,rfl,rfl,rfl⟩,q2o (k:=0) (by kernel_rfl)⟩
instance:TFld Tryz.prog 185 1 1 3:=⟨⟨_,_,Tryz.underlying185,rfl,rfl,rfl⟩,q2o (k:=0) (by kernel_rfl)⟩
instance:TFld Tryz.prog 185 2 2 3:=⟨⟨_,_,Tryz.underlying185,rfl,rfl,rfl⟩,q2o (k:=0) (by kernel_rfl)⟩
instance:TFld Tryz.prog 185 3 3 33:=⟨⟨_,_,Tryz.underlying185,rfl,rfl,rfl⟩,q2o (k:=0) (by kernel_rfl)⟩
instance:TSegs Tryz.prog 185 [[.string ByteArray.empty],[.int .i64 0],[.int .i64 0],[.int .i64 0]]:=q3r Tryz.underlying185 (by kernel_rfl) (by kernel_rfl)
theorem inf188:(Tryz.prog.info? 188).map (fun i=>(i.zero,i.size,i.bytes))=some (some (.agg ([[.int .i64 0],[.string ByteArray.empty]].flatten).toArray),2,24):=by kernel_rfl
instance:TZero Tryz.prog 188 [[.int .i64 0],[.string ByteArray.empty]].flatten:=q2l inf188 (by rfl)
instance:TAgg Tryz.prog 188 2:=⟨⟨_,Tryz.underlying188,rfl⟩,q2r inf188⟩
instance:TFld Tryz.prog 188 0 0 3:=⟨⟨_,_,Tryz.underlying188,rfl,rfl,rfl⟩,q2o (k:=0) (by kernel_rfl)⟩
instance:TFld Tryz.prog 188 1 1 9:=⟨⟨_,_,Tryz.underlying188,rfl,rfl,rfl⟩,q2o (k:=0) (by kernel_rfl)⟩
instance:TSegs Tryz.prog 188 [[.int .i64 0],[.string ByteArray.empty]]:=q3r Tryz.underlying188 (by kernel_rfl) (by kernel_rfl)
instance:TOne Tryz.prog 190:=⟨⟨_,Tryz.underlying190,rfl⟩,by kernel_rfl⟩
instance:TAgg Tryz.prog 192 3:=⟨⟨_,Tryz.underlying192,rfl⟩,by kernel_rfl⟩
instance:TFld Tryz.prog 192 1 1 4:=⟨⟨_,_,Tryz.underlying192,rfl,rfl,rfl⟩,q2o (k:=0) (by kernel_rfl)⟩
instance:TFld Tryz.prog 192 2 2 190:=⟨⟨_,_,Tryz.underlying192,rfl,rfl,rfl⟩,q2o (k:=0) (by kernel_rfl)⟩
instance:TMap Tryz.prog 193 3 192:=⟨Tryz.underlying193⟩
instance:TOne Tryz.prog 214:=⟨⟨_,Tryz.underlying214,rfl⟩,by kernel_rfl⟩
theorem inf216:(Tryz.prog.info? 216).map (fun i=>(i.zero,i.size,i.bytes))=some (some (.agg ([[.string ByteArray.empty],[.bool false],[.int .i64 0],[.int .i64 0]].flatten).toArray),4,40):=by kernel_rfl
instance:TZero Tryz.prog 216 [[.string ByteArray.empty],[.bool false],[.int .i64 0],[.int .i64 0]].flatten:=q2l inf216 (by rfl)
instance:TAgg Tryz.prog 216 4:=⟨⟨_,Tryz.underlying216,rfl⟩,q2r inf216⟩
instance:TFld Tryz.prog 216 0 0 9:=⟨⟨_,_,Tryz.underlying216,rfl,rfl,rfl⟩,q2o (k:=0) (by kernel_rfl)⟩
instance:TFld Tryz.prog 216 1 1 4:=⟨⟨_,_,Tryz.underlying216,rfl,rfl,rfl⟩,q2o (k:=0) (by kernel_rfl)⟩
instance:TFld Tryz.prog 216 2 2 3:=⟨⟨_,_,Tryz.underlying216,rfl,rfl,rfl⟩,q2o (k:=0) (by kernel_rfl)⟩
instance:TFld Tryz.prog 216 3 3 3:=⟨⟨_,_,Tryz.underlying216,rfl,rfl,rfl⟩,q2o (k:=0) (by kernel_rfl)⟩
instance:TSegs Tryz.prog 216 [[.string ByteArray.empty],[.bool false],[.int .i64 0],[.int .i64 0]]:=q3r Tryz.underlying216 (by kernel_rfl) (by kernel_rfl)
instance:TMap Tryz.prog 217 3 216:=⟨Tryz.underlying217⟩
theorem inf259:(Tryz.prog.info? 259).map (fun i=>(i.zero,i.size,i.bytes))=some (some (.pointer none),1,8):=by kernel_rfl
instance:TZero Tryz.prog 259 [.pointer none]:=q2l inf259 (by rfl)
instance:TSz Tryz.prog 259 1:=⟨q2r inf259⟩
instance:TOne Tryz.prog 259:=⟨⟨_,Tryz.underlying259,rfl⟩,q2r inf259⟩
instance:TSlice Tryz.prog 260 259:=⟨Tryz.underlying260⟩
instance:TOne Tryz.prog 276:=⟨⟨_,Tryz.underlying276,rfl⟩,by kernel_rfl⟩
instance:TSlice Tryz.prog 282 69:=⟨Tryz.underlying282⟩
theorem inf282:(Tryz.prog.info? 282).map (fun i=>(i.zero,i.size,i.bytes))=some (some (.slice none 0 0),1,24):=by kernel_rfl
instance:TZero Tryz.prog 282 [.slice none 0 0]:=q2l inf282 (by rfl)
instance:TOne Tryz.prog 282:=⟨⟨_,Tryz.underlying282,rfl⟩,q2r inf282⟩
theorem inf294:(Tryz.prog.info? 294).map (fun i=>(i.zero,i.size,i.bytes))=some (some (.map none),1,8):=by kernel_rfl
instance:TOne Tryz.prog 294:=⟨⟨_,Tryz.underlying294,rfl⟩,q2r inf294⟩
instance:TInt Tryz.prog 348 .u64:=⟨Tryz.underlying348⟩
instance:TOne Tryz.prog 401:=⟨⟨_,Tryz.underlying401,rfl⟩,by kernel_rfl⟩
instance:TAgg Tryz.prog 402 2:=⟨⟨_,Tryz.underlying402,rfl⟩,by kernel_rfl⟩
instance:TFld Tryz.prog 402 0 0 401:=⟨⟨_,_,Tryz.underlying402,rfl,rfl,rfl⟩,q2o (k:=0) (by kernel_rfl)⟩
instance:TFld Tryz.prog 402 1 1 3:=⟨⟨_,_,Tryz.underlying402,rfl,rfl,rfl⟩,q2o (k:=0) (by kernel_rfl)⟩
instance:TArr Tryz.prog 403 4 402:=⟨Tryz.underlying403⟩
instance:TAgg Tryz.prog 403 8:=⟨⟨_,Tryz.underlying403,rfl⟩,by kernel_rfl⟩
instance:TSlice Tryz.prog 406 56:=⟨Tryz.underlying406⟩
theorem inf416:(Tryz.prog.info? 416).map (fun i=>(i.zero,i.size,i.bytes))=some (some (.agg ([[.int .i64 0],[.int .i64 0]].flatten).toArray),2,16):=by kernel_rfl
instance:TZero Tryz.prog 416 [[.int .i64 0],[.int .i64 0]].flatten:=q2l inf416 (by rfl)
instance:TAgg Tryz.prog 416 2:=⟨⟨_,Tryz.underlying416,rfl⟩,q2r inf416⟩
instance:TFld Tryz.prog 416 0 0 3:=⟨⟨_,_,Tryz.underlying416,rfl,rfl,rfl⟩,q2o (k:=0) (by kernel_rfl)⟩
instance:TFld Tryz.prog 416 1 1 3:=⟨⟨_,_,Tryz.underlying416,rfl,rfl,rfl⟩,q2o (k:=0) (by kernel_rfl)⟩
instance:TSegs Tryz.prog 416 [[.int .i64 0],[.int .i64 0]]:=q3r Tryz.underlying416 (by kernel_rfl) (by kernel_rfl)
instance:TInt Tryz.prog 433 .u32:=⟨Tryz.underlying433⟩
theorem inf433:(Tryz.prog.info? 433).map (fun i=>(i.zero,i.size,i.bytes))=some (some (.int .u32 0),1,4):=by kernel_rfl
instance:TSz Tryz.prog 433 1:=⟨q2r inf433⟩
instance:TOne Tryz.prog 433:=⟨⟨_,Tryz.underlying433,rfl⟩,q2r inf433⟩
theorem inf455:(Tryz.prog.info? 455).map (fun i=>(i.zero,i.size,i.bytes))=some (some (.agg ((List.replicate 8 [.int .u32 0]).flatten).toArray),8,32):=by kernel_rfl
instance:TAgg Tryz.prog 455 8:=⟨⟨_,Tryz.underlying455,rfl⟩,q2r inf455⟩
instance:TArr Tryz.prog 456 8 433:=⟨Tryz.underlying456⟩
theorem inf456:(Tryz.prog.info? 456).map (fun i=>(i.zero,i.size,i.bytes))=some (some (.agg ((List.replicate 8 [.int .u32 0]).flatten).toArray),8,32):=by kernel_rfl
instance:TZero Tryz.prog 456 (List.replicate 8 [.int .u32 0]).flatten:=q2l inf456 (by rfl)
instance:TAgg Tryz.prog 456 8:=⟨⟨_,Tryz.underlying456,rfl⟩,q2r inf456⟩
instance:TArr Tryz.prog 518 64 433:=⟨Tryz.underlying518⟩
theorem inf518:(Tryz.prog.info? 518).map (fun i=>(i.zero,i.size,i.bytes))=some (some (.agg ((List.replicate 64 [.int .u32 0]).flatten).toArray),64,256):=by kernel_rfl
instance:TZero Tryz.prog 518 (List.replicate 64 [.int .u32 0]).flatten:=q2l inf518 (by rfl)
instance:TAgg Tryz.prog 518 64:=⟨⟨_,Tryz.underlying518,rfl⟩,q2r inf518⟩
instance:TSlice Tryz.prog 521 433:=⟨Tryz.underlying521⟩
instance:TArr Tryz.prog 596 64 5:=⟨Tryz.underlying596⟩
end Go.Proofs.YtlcnkadkbcoadaaGreatDoor
namespace Go.Proofs.YtlcnkadkbcoadaaGreatDoor
open Go.RowKit Go.Proofs.K
def exC (a b:Nat):List Value:=[.int .u64 (a:Nat),.int .u64 (b:Nat)]
theorem q8q {a b:Nat}:∀ v∈exC a b,v.oneCell'=true:=by
 intro v hv;simp only [exC,List.mem_cons,List.not_mem_nil,or_false] at hv;rcases hv with rfl | rfl <;> rfl
instance:TEq Tryz.prog 42:=⟨by kernel_rfl,by kernel_rfl,.inr ⟨_,_,Tryz.underlying42⟩⟩
instance:TEq Tryz.prog 54:=⟨by kernel_rfl,by kernel_rfl,.inl ⟨_,Tryz.underlying54⟩⟩
def litsD (l:List Nat):List Lit:=l.map fun x:Nat=>.int .u8 (x:Int)
theorem kl_dig {l:List Nat} (h:l.length=32) (h8:∀ x∈l,x < 256):(Tryz.prog).keyLits 2 42 (ints .u8 l)=some (litsD l) :=
 Go.Proofs.K.keyLits_arr 0 (by kernel_rfl) (by kernel_rfl) h fun x hx=>wf_u8 (h8 x hx)
theorem kl_ex {a b:Nat} (ha:a < 18446744073709551616) (hb:b < 18446744073709551616):(Tryz.prog).keyLits 3 54 (exC a b)=some ([.int .u64 (a:Nat)]++[.int .u64 (b:Nat)]):=by
 refine z2k (D:=2) Tryz.underlying54 (by decide) (by decide) (by kernel_rfl) ?_ ?_
 · rw [show (Tryz.prog).cellsOf 52=1 by kernel_rfl];exact Go.Proofs.K.keyLits_int 1 (wf_u64 ha)
 · rw [show (Tryz.prog).cellsOf 52=1 by kernel_rfl];exact Go.Proofs.K.keyLits_int 1 (wf_u64 hb)
theorem litsD_inj {a b:List Nat}:litsD a=litsD b↔a=b:=lits_inj
theorem lits_ex {a b c d:Nat}:[Lit.int .u64 (a:Nat)]++[Lit.int .u64 (b:Nat)]=[Lit.int .u64 (c:Nat)]++[Lit.int .u64 (d:Nat)]↔a=c∧b=d:=by
 constructor
 · intro h;simp at h;omega
 · rintro ⟨rfl,rfl⟩;rfl
section
variable {n:NN} {f:Fr} {w:World} {d:Option Tmp} {t:TypeId} {pos:String} {af:Array Edge} {g:Option (Nat × Bool)} {x y:Operand}
theorem X_neqD {a b:List Nat} (ha:a.length=32) (hb:b.length=32) (ha8:∀ x∈a,x < 256) (hb8:∀ x∈b,x < 256) (hx:ev n f x=.agg (ints .u8 a).toArray) (hy:ev n f y=.agg (ints .u8 b).toArray) :
   X Tryz.prog n ⟨d,.binOp .neq 42 x y 42,t,pos,af,g⟩ f w=.ok (.value (.bool (decide (a ≠ b)))) w :=
 X_neqK hx hy (by rw [q0v,ha];kernel_rfl) (by rw [q0v,hb];kernel_rfl) (kl_dig ha ha8) (kl_dig hb hb8) (decide_eq_true_iff.trans (not_congr litsD_inj.symm))
theorem X_neqEx {a b a' b':Nat} (ha:a < 18446744073709551616) (hb:b < 18446744073709551616) (ha':a' < 18446744073709551616) (hb':b' < 18446744073709551616) (hx:ev n f x=.agg (exC a b).toArray) (hy:ev n f y=.agg (exC a' b').toArray) :
   X Tryz.prog n ⟨d,.binOp .neq 54 x y 54,t,pos,af,g⟩ f w=.ok (.value (.bool (decide (¬ (a=a'∧b=b'))))) w :=
 X_neqK hx hy (by kernel_rfl) (by kernel_rfl) (kl_ex ha hb) (kl_ex ha' hb') (decide_eq_true_iff.trans (not_congr lits_ex.symm))
end
section
variable {n:NN} {f:Fr} {w:World} {d:Option Tmp} {t:TypeId} {pos:String} {af:Array Edge} {g:Option (Nat × Bool)} {x y:Operand}
theorem X_mkEx {a b:Nat} (hx:ev n f x=.int .u64 (a:Nat)) (hy:ev n f y=.int .u64 (b:Nat)) :
   X Tryz.prog n ⟨d,.build 54 #[(0,x),(1,y)],t,pos,af,g⟩ f w=.ok (.value (.agg (exC a b).toArray)) w:=by
 have:=q1t (P:=Tryz.prog) (ty:=54) (n:=n) (f:=f) (w:=w) (d:=d) (t:=t) (pos:=pos) (af:=af) (g:=g) (Parts.cons (i:=0) (c:=[.int .u64 (a:Nat)]) (z:=[.int .u64 0]) hx Y Y Y (Parts.cons (i:=1) (c:=[.int .u64 (b:Nat)]) (z:=[.int .u64 0]) hy Y Y Y (Parts.nil _)));simpa [exC] using this
end
end Go.Proofs.YtlcnkadkbcoadaaGreatDoor
namespace Ce
abbrev EE:=Nat × Nat
abbrev pr:Nat:=18446744069414584321
def byN (n x:Nat):List Nat:=(List.range n).map fun i=>x / 256 ^ i % 256
def numN:List Nat→Nat
 | []=>0
 | b :: l=>b+256 * numN l
theorem byN_len (n x:Nat):(byN n x).length=n:=by simp [byN]
theorem byN_lt (n x:Nat):∀ b∈byN n x,b < 256:=fun b hb=>by
 obtain ⟨i,_,rfl⟩:=List.mem_map.1 hb;exact Nat.mod_lt _ (by decide)
theorem byN_succ (n x:Nat):byN (n+1) x=x % 256 :: byN n (x / 256):=by
 unfold byN;rw [List.range_succ_eq_map,List.map_cons,List.map_map,Nat.pow_zero,Nat.div_one];congr 1;apply List.map_congr_left;intro i _;show x / 256 ^ (i+1) % 256=x / 256 / 256 ^ i % 256;rw [Nat.pow_succ,Nat.mul_comm,Nat.div_div_eq_div_mul]
theorem num_by:∀ (n x:Nat),x < 256 ^ n→numN (byN n x)=x
 | 0,x,h=>by
   rw [Nat.pow_zero] at h;obtain rfl:x=0:=(by omega);rfl
 | n+1,x,h=>by
   rw [byN_succ];show x % 256+256 * numN (byN n (x / 256))=x;rw [num_by n (x / 256) (Nat.div_lt_of_lt_mul (by rw [Nat.pow_succ,Nat.mul_comm] at h;exact h))];have:=Nat.div_add_mod x 256;omega
theorem by_num:∀ (l:List Nat),(∀ b∈l,b < 256)→byN l.length (numN l)=l
 | [],_=>rfl
 | b :: l,h=>by
   have hb:=h b (List.mem_cons_self ..);rw [List.length_cons,byN_succ];show (b+256 * numN l) % 256 :: byN l.length ((b+256 * numN l) / 256)=b :: l;rw [show (b+256 * numN l) % 256=b by omega,show (b+256 * numN l) / 256=numN l by omega,by_num l fun x hx=>h x (List.mem_cons_of_mem _ hx)]
theorem num_lt:∀ (l:List Nat),(∀ b∈l,b < 256)→numN l < 256 ^ l.length
 | [],_=>by decide
 | b :: l,h=>by
   have hb:=h b (List.mem_cons_self ..);have:=num_lt l fun x hx=>h x (List.mem_cons_of_mem _ hx);rw [List.length_cons,Nat.pow_succ];show b+256 * numN l < _;omega
inductive Res (α:Type) where
 | err (e:Nat)
 | got (a:α) (r:List Nat)
abbrev Ps (α:Type):=List Nat→Res α
def Res.bind {α β:Type}:Res α→(α→Ps β)→Res β
 | .err e,_=>.err e
 | .got a r,f=>f a r
def Ps.bind {α β:Type} (p:Ps α) (f:α→Ps β):Ps β:=fun b=>(p b).bind f
def Ps.pure {α:Type} (a:α):Ps α:=fun b=>.got a b
def take (n:Nat):Ps (List Nat):=fun b=>if b.length < n then .err 6 else .got (b.take n) (b.drop n)
def num (n:Nat):Ps Nat:=(take n).bind fun l=>Ps.pure (numN l)
def chk {α:Type} (ok:α→Bool) (a:α):Ps α:=fun b=>if ok a then .got a b else .err 5
def rep {α:Type} (p:Ps α):Nat→Ps (List α)
 | 0=>Ps.pure []
 | n+1=>p.bind fun a=>(rep p n).bind fun l=>Ps.pure (a :: l)
def els {α:Type} (p:Ps α):Ps (List α):=(num 4).bind (rep p)
def mapP {α β:Type} (p:Ps α) (f:α→β):Ps β:=p.bind fun a=>Ps.pure (f a)
structure Cod (α:Type) where
 w:α→List Nat
 p:Ps α
 ok:α→Prop
structure Cod.Law {α:Type} (c:Cod α):Prop where
 back:∀ a,c.ok a→∀ r,c.p (c.w a++r)=.got a r
 inv:∀ b a r,(∀ y∈b,y < 256)→c.p b=.got a r→c.ok a∧b=c.w a++r
 short:∀ a,c.ok a→∀ t s,c.w a=t++s→s ≠ []→c.p t=.err 6
 byte:∀ a,c.ok a→∀ y∈c.w a,y < 256
def raw (n:Nat):Cod (List Nat):=⟨id,take n,fun l=>l.length=n∧∀ y∈l,y < 256⟩
theorem raw_law (n:Nat):(raw n).Law where
 back a h r:=by
   show take n (a++r)=_;unfold take;rw [if_neg (by rw [List.length_append,h.1];omega),← h.1,List.take_left,List.drop_left]
 inv b a r hb h:=by
   have h:take n b=.got a r:=h;unfold take at h;split at h
   · cases h
   · cases h
     refine ⟨⟨by rw [List.length_take];omega,fun y hy=>hb y (List.mem_of_mem_take hy)⟩,(List.take_append_drop n b).symm⟩
 short a h t s e hs:=by
   show take n t=_;have e:a=t++s:=e;have h1:a.length=t.length+s.length:=(by rw [e,List.length_append]);have h2:0 < s.length:=List.length_pos_iff.2 hs;have h3:=h.1;unfold take;rw [if_pos (by omega)]
 byte a h:=h.2
def Cod.iso {α β:Type} (c:Cod α) (f:α→β) (g:β→α):Cod β:=⟨fun b=>c.w (g b),mapP c.p f,fun b=>c.ok (g b)∧f (g b)=b⟩
theorem Cod.Law.iso {α β:Type} {c:Cod α} (h:c.Law) {f:α→β} {g:β→α} (hgf:∀ a,c.ok a→g (f a)=a):(c.iso f g).Law where
 back b hb r:=by
   show (c.p (c.w (g b)++r)).bind _=_;rw [h.back _ hb.1];show Res.got (f (g b)) r=_;rw [hb.2]
 inv b a r hb e:=by
   have e:(c.p b).bind (fun a=>Ps.pure (f a))=.got a r:=e;cases hp:c.p b with
   | err x=>rw [hp] at e;cases e
   | got x r' =>
     rw [hp] at e;obtain ⟨rfl,rfl⟩:=Res.got.inj e;obtain ⟨h1,h2⟩:=h.inv b x r' hb hp;refine ⟨⟨?_,?_⟩,?_⟩
     · show c.ok (g (f x));rw [hgf x h1];exact h1
     · show f (g (f x))=f x;rw [hgf x h1]
     · show b=c.w (g (f x))++r';rw [hgf x h1];exact h2
 short b hb t s e hs:=by
   show (c.p t).bind _=_;rw [h.short _ hb.1 t s e hs];rfl
 byte b hb:=h.byte _ hb.1
def Cod.test {α:Type} (c:Cod α) (f:α→Bool):Cod α:=⟨c.w,c.p.bind (chk f),fun a=>c.ok a∧f a=true⟩
theorem Cod.Law.test {α:Type} {c:Cod α} (h:c.Law) (f:α→Bool):(c.test f).Law where
 back a ha r:=by
   show (c.p (c.w a++r)).bind (chk f)=_;rw [h.back _ ha.1];show chk f a r=_;unfold chk;rw [if_pos ha.2]
 inv b a r hb e:=by
   have e:(c.p b).bind (chk f)=.got a r:=e;cases hp:c.p b with
   | err x=>rw [hp] at e;cases e
   | got x r' =>
     rw [hp] at e;have e:chk f x r'=.got a r:=e;unfold chk at e;split at e
     · rename_i hx;obtain ⟨rfl,rfl⟩:=Res.got.inj e;obtain ⟨h1,h2⟩:=h.inv b x r' hb hp;exact ⟨⟨h1,hx⟩,h2⟩
     · cases e
 short a ha t s e hs:=by
   show (c.p t).bind _=_;rw [h.short _ ha.1 t s e hs];rfl
 byte a ha:=h.byte _ ha.1
def Cod.seq {α β:Type} (c:Cod α) (d:Cod β):Cod (α × β):=⟨fun x=>c.w x.1++d.w x.2,c.p.bind fun a=>d.p.bind fun b=>Ps.pure (a,b),fun x=>c.ok x.1∧d.ok x.2⟩
theorem q8a {a b t s:List Nat} (e:a++b=t++s):(∃ u,u ≠ []∧a=t++u)∨∃ v,t=a++v∧b=v++s:=by
 rcases Nat.lt_or_ge t.length a.length with h | h
 · left;refine ⟨a.drop t.length,fun x=>?_,?_⟩
   · have:=congrArg List.length x;rw [List.length_drop] at this;simp at this;omega
   · have:t=a.take t.length:=by
       have h2:=congrArg (List.take t.length) e;rw [List.take_append_of_le_length (by omega),List.take_left] at h2;exact h2.symm
     conv=>lhs;rw [← List.take_append_drop t.length a]
     rw [← this]
 · right;refine ⟨t.drop a.length,?_,?_⟩
   · have:a=t.take a.length:=by
       have h2:=congrArg (List.take a.length) e;rw [List.take_append_of_le_length (l₂:=s) h,List.take_left] at h2;exact h2
     conv=>lhs;rw [← List.take_append_drop a.length t]
     rw [← this]
   · have h2:=congrArg (List.drop a.length) e;rw [List.drop_left,List.drop_append_of_le_length h] at h2;exact h2
theorem Cod.Law.seq {α β:Type} {c:Cod α} {d:Cod β} (h:c.Law) (k:d.Law):(c.seq d).Law where
 back x hx r:=by
   show (c.p (c.w x.1++d.w x.2++r)).bind _=_;rw [List.append_assoc,h.back _ hx.1];show (d.p (d.w x.2++r)).bind _=_;rw [k.back _ hx.2];rfl
 inv b x r hb e:=by
   have e:(c.p b).bind (fun a=>d.p.bind fun b=>Ps.pure (a,b))=.got x r:=e;cases hp:c.p b with
   | err y=>rw [hp] at e;cases e
   | got y r' =>
     rw [hp] at e;obtain ⟨h1,h2⟩:=h.inv b y r' hb hp;have e:(d.p r').bind (fun b=>Ps.pure (y,b))=.got x r:=e;cases hq:d.p r' with
     | err z=>rw [hq] at e;cases e
     | got z r'' =>
       rw [hq] at e;obtain ⟨rfl,rfl⟩:=Res.got.inj e;obtain ⟨h3,h4⟩:=k.inv r' z r'' (fun u hu=>hb u (by rw [h2];exact List.mem_append_right _ hu)) hq;exact ⟨⟨h1,h3⟩,by rw [h2,h4];exact (List.append_assoc ..).symm⟩
 short x hx t s e hs:=by
   have e:c.w x.1++d.w x.2=t++s:=e;show (c.p t).bind _=_;rcases q8a e with ⟨u,hu,e1⟩ | ⟨v,rfl,e2⟩
   · rw [h.short _ hx.1 t u e1 hu];rfl
   · rw [h.back _ hx.1];show (d.p v).bind _=_;rw [k.short _ hx.2 v s e2 hs];rfl
 byte x hx y hy:=(List.mem_append.1 hy).elim (h.byte _ hx.1 y) (k.byte _ hx.2 y)
def numC (n:Nat):Cod Nat:=(raw n).iso numN (byN n)
theorem q4c (n:Nat):(numC n).Law:=(raw_law n).iso fun a h=>by rw [← h.1];exact by_num a h.2
theorem q8b {n x:Nat} (h:x < 256 ^ n):(numC n).ok x:=⟨⟨byN_len n x,byN_lt n x⟩,num_by n x h⟩
theorem numC_lt {n x:Nat} (h:(numC n).ok x):x < 256 ^ n:=by
 have:=num_lt _ h.1.2;rw [h.2,h.1.1] at this;exact this
def repW {α:Type} (c:Cod α) (l:List α):List Nat:=l.flatMap c.w
theorem rep_back {α:Type} {c:Cod α} (h:c.Law):∀ (l:List α),(∀ a∈l,c.ok a)→∀ r,rep c.p l.length (repW c l++r)=.got l r
 | [],_,r=>rfl
 | a :: l,hl,r=>by
   show (c.p (c.w a++repW c l++r)).bind _=_;rw [List.append_assoc,h.back _ (hl a (List.mem_cons_self ..))];show (rep c.p l.length (repW c l++r)).bind _=_;rw [rep_back h l fun x hx=>hl x (List.mem_cons_of_mem _ hx)];rfl
theorem rep_inv {α:Type} {c:Cod α} (h:c.Law):∀ (n:Nat) (b:List Nat) (l:List α) (r:List Nat),(∀ y∈b,y < 256)→rep c.p n b=.got l r→l.length=n∧(∀ a∈l,c.ok a)∧b=repW c l++r
 | 0,b,l,r,_,e=>by
   cases e
   exact ⟨rfl,(fun _ h=>by cases h),rfl⟩
 | n+1,b,l,r,hb,e=>by
   have e:(c.p b).bind (fun a=>(rep c.p n).bind fun l=>Ps.pure (a :: l))=.got l r:=e;cases hp:c.p b with
   | err y=>rw [hp] at e;cases e
   | got y r' =>
     rw [hp] at e;obtain ⟨h1,h2⟩:=h.inv b y r' hb hp;have e:(rep c.p n r').bind (fun l=>Ps.pure (y :: l))=.got l r:=e;cases hq:rep c.p n r' with
     | err z=>rw [hq] at e;cases e
     | got z r'' =>
       rw [hq] at e;obtain ⟨rfl,rfl⟩:=Res.got.inj e;obtain ⟨h3,h4,h5⟩:=rep_inv h n r' z r'' (fun u hu=>hb u (by rw [h2];exact List.mem_append_right _ hu)) hq;refine ⟨by rw [List.length_cons,h3],fun a ha=>?_,?_⟩
       · rcases List.mem_cons.1 ha with rfl | ha
         · exact h1
         · exact h4 a ha
       · rw [h2,h5];show _=c.w y++repW c z++r'';rw [List.append_assoc]
theorem rep_short {α:Type} {c:Cod α} (h:c.Law):∀ (l:List α),(∀ a∈l,c.ok a)→∀ t s,repW c l=t++s→s ≠ []→rep c.p l.length t=.err 6
 | [],_,t,s,e,hs=>by
   have e:([]:List Nat)=t++s:=e;exact absurd (List.append_eq_nil_iff.1 e.symm).2 hs
 | a :: l,hl,t,s,e,hs=>by
   have e:c.w a++repW c l=t++s:=e;show (c.p t).bind _=_;have ha:=hl a (List.mem_cons_self ..);rcases q8a e with ⟨u,hu,e1⟩ | ⟨v,rfl,e2⟩
   · rw [h.short _ ha t u e1 hu];rfl
   · rw [h.back _ ha];show (rep c.p l.length v).bind _=_;rw [rep_short h l (fun x hx=>hl x (List.mem_cons_of_mem _ hx)) v s e2 hs];rfl
def lst {α:Type} (c:Cod α):Cod (List α):=⟨fun l=>byN 4 l.length++repW c l,els c.p,fun l=>l.length < 4294967296∧∀ a∈l,c.ok a⟩
theorem lst_law {α:Type} {c:Cod α} (h:c.Law):(lst c).Law where
 back l hl r:=by
   show ((num 4) (byN 4 l.length++repW c l++r)).bind _=_;rw [List.append_assoc,show (num 4) (byN 4 l.length++(repW c l++r))=.got l.length (repW c l++r) from (q4c 4).back _ (q8b (by have:=hl.1;omega)) _];exact rep_back h l hl.2 r
 inv b l r hb e:=by
   have e:((num 4) b).bind (rep c.p)=.got l r:=e;cases hp:(num 4) b with
   | err y=>rw [hp] at e;cases e
   | got n r' =>
     rw [hp] at e;obtain ⟨h1,h2⟩:=(q4c 4).inv b n r' hb hp;obtain ⟨h3,h4,h5⟩:=rep_inv h n r' l r (fun u hu=>hb u (by rw [h2];exact List.mem_append_right _ hu)) e;have h6:=numC_lt h1;refine ⟨⟨by rw [h3];omega,h4⟩,?_⟩;rw [h2,h5];show byN 4 n++_=byN 4 l.length++repW c l++r;rw [h3,List.append_assoc]
 short l hl t s e hs:=by
   have e:byN 4 l.length++repW c l=t++s:=e;show ((num 4) t).bind _=_;have hn:(numC 4).ok l.length:=q8b (by have:=hl.1;omega);rcases q8a e with ⟨u,hu,e1⟩ | ⟨v,rfl,e2⟩
   · rw [show (num 4) t=.err 6 from (q4c 4).short _ hn t u e1 hu];rfl
   · rw [show (num 4) (byN 4 l.length++v)=.got l.length v from (q4c 4).back _ hn v];exact rep_short h l hl.2 v s e2 hs
 byte l hl y hy:=by
   rcases List.mem_append.1 hy with hy | hy
   · exact byN_lt 4 _ y hy
   · obtain ⟨a,ha,hy⟩:=List.mem_flatMap.1 hy;exact h.byte a (hl.2 a ha) y hy
theorem rep_step {α:Type} (p:Ps α) (n:Nat) (b:List Nat):rep p (n+1) b=(p b).bind fun a r=>(rep p n r).bind fun l=>Ps.pure (a :: l):=rfl
structure LP where
 rounds:List (List EE)
 left:EE
 right:EE
 line:List EE
structure Cert where
 q:List Nat
 log:Nat
 root:List Nat
 sR:Nat
 sC:Nat
 sB:Nat
 sT:Nat
 sums:List Nat
 rows:List (List EE)
 ps:List LP
 pz:List LP
 batch:List (List EE)
 v:EE
 orow:List EE
 ornd:List EE
 cols:List (List Nat)
 nodes:List (List Nat)
def byteC:Cod Nat:=numC 1
def wordC:Cod Nat:=(numC 8).test fun x=>decide (x < pr)
def extC:Cod EE:=((numC 8).seq (numC 8)).test fun x=>decide (x.1 < pr) && decide (x.2 < pr)
def roundC:Cod (List EE):=lst extC
def lpT:Cod (List (List EE) × EE × EE × List EE):=(lst roundC).seq (extC.seq (extC.seq roundC))
def lpC:Cod LP:=lpT.iso (fun x=>⟨x.1,x.2.1,x.2.2.1,x.2.2.2⟩) fun x=>(x.rounds,x.left,x.right,x.line)
abbrev T17:=List Nat × Nat × List Nat × Nat × Nat × Nat × Nat × List Nat × List (List EE) × List LP × List LP × List (List EE) × EE × List EE × List EE × List (List Nat) × List (List Nat)
def certT:Cod T17 :=
 (lst byteC).seq ((numC 4).seq ((raw 32).seq ((numC 4).seq ((numC 4).seq ((numC 4).seq ((numC 4).seq ((lst (numC 8)).seq ((lst roundC).seq ((lst lpC).seq ((lst lpC).seq ((lst roundC).seq (extC.seq (roundC.seq (roundC.seq ((lst (lst wordC)).seq (lst (raw 32)))))))))))))))))
def ofT (x:T17):Cert :=
 ⟨x.1,x.2.1,x.2.2.1,x.2.2.2.1,x.2.2.2.2.1,x.2.2.2.2.2.1,x.2.2.2.2.2.2.1,x.2.2.2.2.2.2.2.1,x.2.2.2.2.2.2.2.2.1,x.2.2.2.2.2.2.2.2.2.1,x.2.2.2.2.2.2.2.2.2.2.1,x.2.2.2.2.2.2.2.2.2.2.2.1,x.2.2.2.2.2.2.2.2.2.2.2.2.1,x.2.2.2.2.2.2.2.2.2.2.2.2.2.1,x.2.2.2.2.2.2.2.2.2.2.2.2.2.2.1,x.2.2.2.2.2.2.2.2.2.2.2.2.2.2.2.1,x.2.2.2.2.2.2.2.2.2.2.2.2.2.2.2.2⟩
def toT (c:Cert):T17:=(c.q,c.log,c.root,c.sR,c.sC,c.sB,c.sT,c.sums,c.rows,c.ps,c.pz,c.batch,c.v,c.orow,c.ornd,c.cols,c.nodes)
def certC:Cod Cert:=certT.iso ofT toT
theorem byteC_law:byteC.Law:=q4c 1
theorem wordC_law:wordC.Law:=(q4c 8).test _
theorem z1p:extC.Law:=((q4c 8).seq (q4c 8)).test _
theorem q5u:roundC.Law:=lst_law z1p
theorem lpC_law:lpC.Law:=((lst_law q5u).seq (z1p.seq (z1p.seq q5u))).iso fun _ _=>rfl
theorem certT_law:certT.Law :=
 (lst_law byteC_law).seq ((q4c 4).seq ((raw_law 32).seq ((q4c 4).seq ((q4c 4).seq ((q4c 4).seq ((q4c 4).seq ((lst_law (q4c 8)).seq ((lst_law q5u).seq ((lst_law lpC_law).seq ((lst_law lpC_law).seq ((lst_law q5u).seq (z1p.seq (q5u.seq (q5u.seq ((lst_law (lst_law wordC_law)).seq (lst_law (raw_law 32)))))))))))))))))
theorem z2q:certC.Law:=certT_law.iso fun _ _=>rfl
inductive Ans where
 | err (e:Nat)
 | ok (c:Cert)
def decode (b:List Nat):Ans :=
 if 65536 < b.length then .err 2 else
 match certC.p b with
 | .err e=>.err e
 | .got c r=>if r=[] then .ok c else .err 5
theorem decode_encode {c:Cert} (h:certC.ok c) (hl:(certC.w c).length≤65536):decode (certC.w c)=.ok c:=by
 unfold decode;rw [if_neg (by omega)];have:=z2q.back c h [];rw [List.append_nil] at this;rw [this];rfl
theorem decode_suffix {c:Cert} (h:certC.ok c) {s:List Nat} (hl:(certC.w c++s).length≤65536) (hs:s ≠ []):decode (certC.w c++s)=.err 5:=by
 unfold decode;rw [if_neg (by omega),z2q.back c h];dsimp only;rw [if_neg hs]
def Only {α:Type} (p:Ps α):Prop:=∀ b e,p b=.err e→e=5∨e=6
theorem z2g (n:Nat):Only (take n):=fun b e h=>by
 unfold take at h;split at h
 · cases h;exact .inr Y
 · cases h
theorem q6u {α:Type} (a:α):Only (Ps.pure a):=fun b e h=>by cases h
theorem q4j {α β:Type} {p:Ps α} {f:α→Ps β} (h:Only p) (k:∀ a,Only (f a)):Only (p.bind f):=fun b e he=>by
 have he:(p b).bind f=.err e:=he;cases hp:p b with
 | err x=>rw [hp] at he;cases he;exact h b _ hp
 | got x r=>rw [hp] at he;exact k x r e he
theorem only_chk {α:Type} (f:α→Bool) (a:α):Only (chk f a):=fun b e h=>by
 unfold chk at h;split at h
 · cases h
 · cases h;exact .inl Y
theorem only_rep {α:Type} {p:Ps α} (h:Only p):∀ n,Only (rep p n)
 | 0=>q6u _
 | n+1=>q4j h fun _=>q4j (only_rep h n) fun _=>q6u _
theorem q4u (n:Nat):Only (num n):=q4j (z2g n) fun _=>q6u _
theorem q4v {α:Type} {p:Ps α} (h:Only p):Only (els p):=q4j (q4u 4) (only_rep h)
theorem q3a {α β:Type} {c:Cod α} {d:Cod β} (h:Only c.p) (k:Only d.p):Only (c.seq d).p:=q4j h fun _=>q4j k fun _=>q6u _
theorem z1o:Only extC.p:=q4j (q3a (q4u 8) (q4u 8)) fun _=>only_chk _ _
theorem q5w:Only roundC.p:=q4v z1o
theorem only_lp:Only lpC.p:=q4j (q3a (d:=extC.seq (extC.seq roundC)) (q4v q5w) (q3a z1o (q3a z1o q5w))) fun _=>q6u _
theorem only_word:Only wordC.p:=q4j (q4u 8) fun _=>only_chk _ _
theorem only_cert:Only certC.p :=
 q4j (q3a (c:=lst byteC) (q4v (q4u 1)) (q3a (q4u 4) (q3a (z2g 32) (q3a (q4u 4) (q3a (q4u 4) (q3a (q4u 4) (q3a (q4u 4) (q3a (c:=lst (numC 8)) (q4v (q4u 8)) (q3a (c:=lst roundC) (q4v q5w) (q3a (c:=lst lpC) (q4v only_lp) (q3a (c:=lst lpC) (q4v only_lp) (q3a (c:=lst roundC) (q4v q5w) (q3a z1o (q3a q5w (q3a q5w (q3a (c:=lst (lst wordC)) (q4v (q4v only_word)) (q4v (z2g 32)))))))))))))))))) fun _=>q6u _
end Ce
namespace Go.Proofs.YtlcnkadkbcoadaaGreatDoor
open Go.RowKit Go.Proofs.K
theorem _root_.Go.Proofs.K.RowN.keep {N:Nat→Prop} {a b:World} {size m:Nat} {v:Value} {xs:List Value} {B g:Nat} {T:TypeId} (h:RowN N a size v m xs) (k:KeepTy B g T a b) (hN:∀ q,N q→q ≠ g∧q < B):RowN N b size v m xs:=by
 obtain ⟨lo,hi,h1,h2⟩:=h;refine ⟨lo,hi,h1,?_⟩;obtain ⟨hl,A,c,rfl,hc,hm,hn⟩:=h2;refine ⟨hl,A,c,rfl,hc,hm,fun h0=>?_⟩;obtain ⟨b0,o,rfl,k1,k2,k3⟩:=hn h0;have hb:=hN b0 (h1 b0 k1 k2);exact ⟨b0,o,rfl,k1,k2,fun j u hu=>k.cell (by dsimp only;exact hb.1) (by dsimp only;exact hb.2) (k3 j u hu)⟩
abbrev Rep (α:Type):=(Nat→Prop)→World→List Value→α→Prop
structure Rep.Ok {α:Type} (R:Rep α):Prop where
 mono:∀ {N N':Nat→Prop} {w:World} {x:List Value} {a:α},R N w x a→(∀ k,N k→N' k)→R N' w x a
 grown:∀ {N:Nat→Prop} {w w':World} {x:List Value} {a:α} {row:Option Nat},R N w x a→w.grownBy w' row→(∀ q,row=some q→¬ N q)→R N w' x a
 keep:∀ {N:Nat→Prop} {w w':World} {x:List Value} {a:α} {B g:Nat} {T:TypeId},R N w x a→KeepTy B g T w w'→(∀ q,N q→q ≠ g∧q < B)→R N w' x a
 tight:∀ {N:Nat→Prop} {w:World} {x:List Value} {a:α},R N w x a→R (fun k=>N k∧k < w.heap.size) w x a
 one:∀ {N:Nat→Prop} {w:World} {x:List Value} {a:α},R N w x a→∀ v∈x,v.oneCell'=true
theorem Rep.Ok.ext {α:Type} {R:Rep α} (h:R.Ok) {N:Nat→Prop} {w w':World} {x:List Value} {a:α} (hr:R N w x a) (E:Ext w w'):R N w' x a:=h.grown hr (E.row none) (fun _ h=>by cases h)
def numR (k:IntKind):Rep Nat:=fun _ _ x a=>x=[.int k (a:Nat)]
theorem q3n (k:IntKind):(numR k).Ok:=⟨fun h _=>h,fun h _ _=>h,fun h _ _=>h,fun h=>h,fun h v hv=>by
 have h:_=[_]:=h
 subst h
 simp at hv
 subst hv
 rfl⟩
def exR:Rep (Nat × Nat):=fun _ _ x p=>x=exC p.1 p.2
theorem q6w:exR.Ok:=⟨fun h _=>h,fun h _ _=>h,fun h _ _=>h,fun h=>h,fun h v hv=>by
 have h:_=exC _ _:=h
 subst h
 exact q8q v hv⟩
def byR (n:Nat):Rep (List Nat):=fun _ _ x l=>x=ints .u8 l∧l.length=n
theorem byR_ok (n:Nat):(byR n).Ok:=⟨fun h _=>h,fun h _ _=>h,fun h _ _=>h,fun h=>h,fun h v hv=>by
 obtain ⟨rfl,_⟩:=h
 exact q1v v hv⟩
def slR {α:Type} (size:Nat) (R:Rep α):Rep (List α):=fun N w x l =>
 ∃ v,x=[v]∧∃ ys:List (List Value),ys.length=l.length∧(∀ y∈ys,y.length=size)∧RowN N w size v l.length ys.flatten∧∀ (i:Nat) (y:List Value) (a:α),ys[i]?=some y→l[i]?=some a→R N w y a
theorem q1x {α:Type} {size:Nat} (hs:0 < size) {R:Rep α} (h:R.Ok):(slR size R).Ok where
 mono:=fun ⟨v,hx,ys,h1,h2,h3,h4⟩ hN=>⟨v,hx,ys,h1,h2,h3.mono hN,fun i y a hy ha=>h.mono (h4 i y a hy ha) hN⟩
 grown:=fun ⟨v,hx,ys,h1,h2,h3,h4⟩ hg hr=>⟨v,hx,ys,h1,h2,h3.grown hg hr,fun i y a hy ha=>h.grown (h4 i y a hy ha) hg hr⟩
 keep:=fun ⟨v,hx,ys,h1,h2,h3,h4⟩ hg hr=>⟨v,hx,ys,h1,h2,h3.keep hg hr,fun i y a hy ha=>h.keep (h4 i y a hy ha) hg hr⟩
 tight:=fun ⟨v,hx,ys,h1,h2,h3,h4⟩=>⟨v,hx,ys,h1,h2,h3.tight hs,fun i y a hy ha=>h.tight (h4 i y a hy ha)⟩
 one:=fun ⟨v,hx,ys,h1,h2,h3,h4⟩ u hu=>by
   subst hx;simp at hu;subst hu;exact h3.cell1
theorem flat_at {size:Nat}:∀ {ys:List (List Value)} (_:∀ y∈ys,y.length=size) {i:Nat} {y:List Value},ys[i]?=some y→∀ {j:Nat},j < size→ys.flatten[i * size+j]?=y[j]?
 | [],_,_,_,h,_,_=>by cases h
 | z :: ys,hl,0,y,h,j,hj=>by
   obtain rfl:z=y:=(by simpa using h);have:=hl z (List.mem_cons_self ..);rw [List.flatten_cons,Nat.zero_mul,Nat.zero_add,List.getElem?_append_left (by omega)]
 | z :: ys,hl,i+1,y,h,j,hj=>by
   have h1:=hl z (List.mem_cons_self ..);have h2:ys[i]?=some y:=(by simpa using h);rw [List.flatten_cons,Nat.succ_mul,List.getElem?_append_right (by omega),show i * size+size+j - z.length=i * size+j by omega];exact flat_at (fun y hy=>hl y (List.mem_cons_of_mem _ hy)) h2 hj
theorem q3q {α:Type} {size:Nat} {R:Rep α} {N:Nat→Prop} {w:World} {v:Value} {l:List α} (h:slR size R N w [v] l) {i:Nat} {a:α} (hi:l[i]?=some a) :
   ∃ b o c y,v=.slice (some ⟨b,o,none⟩) l.length c∧l.length≤c∧c≤maxLen∧y.length=size∧w.rangeAt b (o+i * size) y∧R N w y a:=by
 obtain ⟨v',hv,ys,h1,h2,h3,h4⟩:=h;obtain rfl:v=v':=by simpa using hv
 have hlt:=(List.getElem?_eq_some_iff.1 hi).1;obtain ⟨y,hy⟩:∃ y,ys[i]?=some y:=⟨_,List.getElem?_eq_getElem (by omega)⟩;obtain ⟨b,o,c,rfl,k1,k2,_,k3⟩:=h3.at hlt;have hyl:=h2 y (List.mem_of_getElem? hy);refine ⟨b,o,c,y,rfl,k1,k2,hyl,fun j u hu=>?_,h4 i y a hy hi⟩;have hj:=(List.getElem?_eq_some_iff.1 hu).1;have:=k3 (i * size+j) u (by rw [flat_at h2 hy (by omega)];exact hu);rw [Nat.add_assoc];exact this
theorem q2m {α:Type} {size:Nat} {R:Rep α} {N:Nat→Prop} {w:World} {x:List Value} {l:List α} (h:slR size R N w x l):∃ A c,x=[.slice A l.length c]∧l.length≤c∧c≤maxLen:=by
 obtain ⟨v,rfl,ys,h1,h2,h3,h4⟩:=h;obtain ⟨A,c,rfl,k1,k2⟩:=h3.form;exact ⟨A,c,rfl,k1,k2⟩
theorem q1w {α:Type} {size:Nat} {R:Rep α} {N:Nat→Prop} {w:World}:slR size R N w [.slice none 0 0] [] :=
 ⟨_,rfl,[],rfl,(fun _ h=>by cases h),⟨0,0,fun _ _ h=>absurd h (by omega),Row.nil _ _ _ _⟩,fun _ _ _ h=>by cases h⟩
theorem z4j {k:IntKind} {N:Nat→Prop} {w:World} {v:Value} {l:List Nat} (h:RowN N w 1 v l.length (ints k l)):slR 1 (numR k) N w [v] l:=by
 refine ⟨v,rfl,(ints k l).map fun u=>[u],by rw [List.length_map,q0v],fun y hy=>?_,?_,fun i y a hy ha=>?_⟩
 · obtain ⟨u,_,rfl⟩:=List.mem_map.1 hy;rfl
 · have:((ints k l).map fun u=>[u]).flatten=ints k l:=by
     induction ints k l with
     | nil=>rfl
     | cons a l ih=>rw [List.map_cons,List.flatten_cons,ih];rfl
   rw [this];exact h
 · rw [List.getElem?_map] at hy;obtain ⟨u,hu,rfl⟩:=Option.map_eq_some_iff.1 hy;have hlt:=(List.getElem?_eq_some_iff.1 ha).1;rw [q8o hlt] at hu;obtain rfl:=Option.some.inj hu;show [_]=[_];rw [List.getD_eq_getElem?_getD,ha];rfl
def lpR:Rep Ce.LP:=fun N w x p=>∃ a b,x=[a,.int .u64 (p.left.1:Nat),.int .u64 (p.left.2:Nat),.int .u64 (p.right.1:Nat),.int .u64 (p.right.2:Nat),b]∧slR 1 (slR 2 exR) N w [a] p.rounds∧slR 2 exR N w [b] p.line
theorem q1s:(slR 2 exR).Ok:=q1x (by decide) q6w
theorem q1z:(slR 1 (slR 2 exR)).Ok:=q1x (by decide) q1s
theorem z2i:lpR.Ok where
 mono:=fun ⟨a,b,hx,h1,h2⟩ hN=>⟨a,b,hx,q1z.mono h1 hN,q1s.mono h2 hN⟩
 grown:=fun ⟨a,b,hx,h1,h2⟩ hg hr=>⟨a,b,hx,q1z.grown h1 hg hr,q1s.grown h2 hg hr⟩
 keep:=fun ⟨a,b,hx,h1,h2⟩ hg hr=>⟨a,b,hx,q1z.keep h1 hg hr,q1s.keep h2 hg hr⟩
 tight:=fun ⟨a,b,hx,h1,h2⟩=>⟨a,b,hx,q1z.tight h1,q1s.tight h2⟩
 one:=fun ⟨a,b,hx,h1,h2⟩ v hv=>by
   subst hx;have ha:=q1z.one h1 a (List.mem_singleton.2 Y);have hb:=q1s.one h2 b (List.mem_singleton.2 Y);simp at hv;rcases hv with rfl | rfl | rfl | rfl | rfl | rfl <;> first | rfl | assumption
theorem q2u:(slR 6 lpR).Ok:=q1x (by decide) z2i
theorem q6g:(slR 1 (slR 1 (numR .u64))).Ok:=q1x (by decide) (q1x (by decide) (q3n _))
theorem q6f:(slR 32 (byR 32)).Ok:=q1x (by decide) (byR_ok _)
end Go.Proofs.YtlcnkadkbcoadaaGreatDoor
namespace Go.Proofs.K
open Go.RowKit
theorem q7h (x:Nat) (m:Int) (h:0≤m∧m≤64):(x:Int).fdiv (2 ^ (min m.toNat 64))=((x / 2 ^ m.toNat:Nat):Int):=by
 rw [Nat.min_eq_left (by omega),Int.fdiv_eq_ediv_of_nonneg _ (by exact Int.le_of_lt (Int.pow_pos (by omega)))];simp
theorem u8_nat (x:Nat):IntKind.u8.wrap (x:Int)=((x % 256:Nat):Int):=by rw [IntKind.wrap_u8];omega
theorem q7f (x:Nat):IntKind.u64.wrap (x:Int)=((x % 18446744073709551616:Nat):Int):=by rw [IntKind.wrap_u64];omega
def z1d (x k:Nat):Nat:=x / 256 ^ k % 256
def word (x k:Nat):List Nat:=(List.range k).map (z1d x)
theorem word_succ (x k:Nat):word x (k+1)=word x k++[z1d x k]:=by simp [word,List.range_succ]
theorem word_len (x k:Nat):(word x k).length=k:=by simp [word]
theorem shr_byte (x k:Nat) (hk:k≤7):IntKind.u8.wrap ((x:Int).fdiv (2 ^ min ((8:Int) * (k:Nat)).toNat IntKind.u64.bits))=((z1d x k:Nat):Int):=by
 have e:IntKind.u64.bits=64:=rfl;rw [e,q7h x _ (by omega),u8_nat];have:((8:Int) * (k:Nat)).toNat=8 * k:=by omega
 rw [this,z1d,show (256:Nat)=2 ^ 8 from rfl,← Nat.pow_mul]
section
variable {R:Nat→World→World→Prop} {P:Program} {n:NN} {ops:Array Oper} {A:Nat→World→Prop} {Fin:List Oper→(Rho→Fr)→(Rho→Nat→World→Prop)→Prop} {rest:List Oper} {k:Nat} {E:List Ent} {g:Rho→Fr} {H:Rho→Nat→World→Prop} {d:Tmp} {op:Op} {t:TypeId} {pos:String} {af:Array Edge}
theorem DW_dr {F:Rho→Value→World→Prop} (hX:∀ r w,A k w→(∀ j,td ops k j=true→H r j w)→∃ v w',X P n ⟨some d,op,t,pos,af,none⟩ (g r) w=.ok (.value v) w'∧R k w w'∧F r v w') (hF:∀ i r v w w',i ≠ k→td ops k i=false→R i w w'→F r v w→F r v w')
   (hi:∀ r v,F (rset r k v)=F r)
   (hr:DW R P n ops A Fin rest (k+1) E (fun r=>upd (g r) d (r k)) (fun r j w=>bif Nat.beq j k then F r (r k) w else H r j w)):DW R P n ops A Fin (⟨some d,op,t,pos,af,none⟩ :: rest) k (.op (fun r w=>F r (r k) w) :: E) g H:=by
 refine .op (fun r w hA hH=>⟨rfl,?_⟩) (fun i r w w' h1 h2 hE h=>hF i _ _ _ _ h1 h2 hE h) hr;obtain ⟨v,w',h1,h2,h3⟩:=hX r w hA hH;exact q9e h1 ⟨h2,by rw [q6b,hi];exact h3⟩
theorem DW_app {w0:World} {bl:Option Nat} {size bytes m q base:Nat} {ty e:TypeId} {v:Value} {xs ys:List Value} {x y:Operand} {kx:Nat} [TSlice P ty e] [hz:TElem P e size bytes]
   (hx:∀ r,ev n (g r) x=v) (hy:∀ r,ev n (g r) y=r kx) (hk:td ops k kx=true) (hbl:v.ownBlock=bl) (hA:∀ w,A k w→w.ownsRow base e size v m xs∧base≤w.heap.size) (hrow:∀ r w,H r kx w→RowF w0 size (r kx) q ys w)
   (h1:∀ q∈ys,q.oneCell'=true) (hb:(m+q) * bytes≤140737488355328) (hm:m+q≤9223372036854775807)
   (hr:DW (RA k bl e size m) P n ops A Fin rest (k+1) E (fun r=>upd (g r) d (r k)) (fun r j w=>bif Nat.beq j k then w.ownsRow base e size (r k) (m+q) (xs++ys) else H r j w)) :
   DW (RA k bl e size m) P n ops A Fin (⟨some d,.call ⟨.builtin .append,#[x,y],#[ty,ty]⟩,t,pos,af,none⟩ :: rest) k (.op (fun r w=>w.ownsRow base e size (r k) (m+q) (xs++ys)) :: E) g H:=by
 obtain ⟨z,h0,hzs,hsz⟩:=hz.h;haveI:TInfo P e size bytes z:=⟨h0⟩;refine DW_dr (F:=fun _ u w=>w.ownsRow base e size u (m+q) (xs++ys)) ?_ ?_ (fun _ _=>rfl) hr
 · intro r w hAw hH;obtain ⟨lo,hi,_,hR⟩:=hrow r w (hH kx hk);obtain ⟨ho,hbs⟩:=hA w hAw;obtain ⟨v',w',hX,h2,h3,_,h5⟩:=z2c (P:=P) (ty:=t) (t:=ty) hzs hsz ho hR h1 hb hm hbs;exact ⟨v',w',z1s (hx r) (hy r) hX,.inr ⟨rfl,hbl ▸ h3,h5⟩,h2⟩
 · exact fun i r u w w' hi _ hR hF=>q1g hF (hR.other hi)
end
end Go.Proofs.K
namespace Go.Proofs.YtlcnkadkbcoadaaGreatDoor
open Go.RowKit Go.Proofs.K
structure EncAt (B p:Nat) (w:World) (l:List Nat):Prop where
 h:∃ v,Blk w p 149 [v]∧w.ownsRow B 5 1 v l.length (ints .u8 l)
structure EncK (B p:Nat) (w w':World):Prop where
 k:KeepTy B p 5 w w'
 e:∀ w0,Ext w0 w→w0.heap.size≤p→w0.heap.size≤B→Ext w0 w'
theorem EncK.refl (B p:Nat) (w:World):EncK B p w w:=⟨KeepTy.refl w,fun _ E _ _=>E⟩
theorem EncK.of_ext {B p:Nat} {w w':World} (E:Ext w w'):EncK B p w w':=⟨KeepTy.of_ext E,fun _ F _ _=>F.trans E⟩
theorem EncK.trans {B p:Nat} {a b c:World} (h:EncK B p a b) (k:EncK B p b c):EncK B p a c:=⟨h.k.trans k.k,fun w0 E h1 h2=>k.e w0 (h.e w0 E h1 h2) h1 h2⟩
theorem EncK.own {B p m:Nat} {v:Value} {xs:List Value} {w w':World} (ho:w.ownsRow B 5 1 v m xs) (G:w.grownBy w' v.ownBlock):EncK B p w w' :=
 ⟨KeepTy.of_grown G fun q hq=>.inr (q3m ho q hq),fun _ E _ h2=>E.then G fun q hq=>Nat.le_trans h2 (q3m ho q hq).1⟩
theorem EncK.set {B p:Nat} {w w':World} (G:w.grownBy w' (some p)):EncK B p w w' :=
 ⟨KeepTy.of_grown G fun q hq=>.inl (Option.some.inj hq).symm,fun w0 E h1 _=>E.then G fun q hq=>by cases hq;exact h1⟩
theorem q3s {w:World} {lo hi size m:Nat} {v:Value} {xs:List Value} (h:Row w lo hi size v m xs):v.oneCell'=true:=by obtain ⟨_,_,_,rfl,_⟩:=h;rfl
theorem z0j {B p m:Nat} {v u:Value} {xs:List Value} {w:World} (ho:w.ownsRow B 5 1 v m xs) (hb:Blk w p 149 [u]):∀ q,v.ownBlock=some q→q ≠ p:=by
 rintro q hq rfl;obtain ⟨_,cs,fz,h⟩:=q3m ho q hq;have h':w.heap[q]?=some (.cells _ _ _):=hb;rw [h] at h';cases h'
theorem byN_snoc (n x:Nat):Ce.byN (n+1) x=Ce.byN n x++[x / 256 ^ n % 256]:=by
 unfold Ce.byN;rw [List.range_succ,List.map_append];rfl
theorem gfixed (B p n x:Nat) (l:List Nat) (w:World) (_:x < 18446744073709551616) (hn:n≤8) (hl:l.length≤100000000) (hB:B≤w.heap.size) (he:EncAt B p w l) :
   Calls Tryz.prog 144 #[.pointer (some ⟨p,0,none⟩),.int .u64 (x:Nat),.int .i64 (n:Nat)] w fun e w'=>e=.returned (.tuple #[])∧EncAt B p w' (l++Ce.byN n x)∧EncK B p w w':=by
 refine q0j Tryz.func144 Y Tryz.ntmps144 Y ?_;(refine q0b<|q0a<|m_I Y<|m_I Y<|q0c<|tn<|q0p ?_);refine q1e (fun q f w'=>∃ k,q=n - k∧k≤n∧f 0=.pointer (some ⟨p,0,none⟩)∧f 1=.int .u64 (x:Nat)∧f 7=.int .i64 (n:Nat)∧f 8=.int .i64 (k:Nat)∧B≤w'.heap.size∧EncAt B p w' (l++Ce.byN k x)∧EncK B p w w') n ?_ ?_
 · exact ⟨0,rfl,by omega,rfl,rfl,rfl,rfl,hB,by rw [show Ce.byN 0 x=[] from rfl,List.append_nil];exact he,EncK.refl _ _ _⟩
 · rintro q f w1 ⟨k,hq,hk,f0,f1,f7,f8,hB1,⟨v,bv,ov⟩,hK⟩;rw [fold f0,fold f1,fold f7,fold f8];have hne:=z0j ov bv;(refine q0b<|q0a<|Ls (q2h Y Y)<|q0c<|tn<|q0b ?_);refine q0x Y (fun h=>?_) (fun h=>?_)
   · have hk7:k≤7:=(by omega);have hlen:(l++Ce.byN k x).length+1≤100000100:=(by rw [List.length_append,Ce.byN_len];omega);(refine q0l<|tn<|q0b<|q0p<|q0b<|q0a<|m_I Y<|a_I Y<|q0c<|tn ?_);obtain ⟨xs,hxs⟩:∃ xs,xs=l++Ce.byN k x:=⟨_,rfl⟩;rw [← hxs] at ov hlen;have hv1:=q3s (Row.of_own ov);have BA:∀ {u:World},AA w1 v.ownBlock B 5 1 v xs.length (ints .u8 xs) u→Blk u p 149 [v]:=fun hA=>bv.grown hA.g (fun h=>hne _ h Y);apply z0b (R:=RA 11 v.ownBlock 5 1 xs.length) (AA w1 v.ownBlock B 5 1 v xs.length (ints .u8 xs)) 12 (by kernel_rfl) (RA.refl _ _ _ _ _) (AA.new ov) AA.step;(apply DW_x (fun r w hA hH=>(q0d (v:=.pointer _) Y).trans Y);apply DW_x (fun r w hA hH=>(q0d (v:=.pointer _) Y).trans Y);apply DW_x (fun r w hA hH=>(q1m Y).trans Y);apply DW_x (fun r w hA hH=>(q0g Y).trans Y);apply DW_x (fun r w hA hH=>(X_ld Y (BA hA) Y).trans Y);apply DW_x (fun r w hA hH=>(q0d (v:=.int _ _) Y).trans Y);apply DW_x (fun r w hA hH=>(q0d (v:=.int _ _) Y).trans Y);apply DW_x (fun r w hA hH=>(q5r Y Y (by omega)).trans Y);apply DW_x (fun r w hA hH=>(q5f Y Y (by omega)).trans Y);apply DW_x (fun r w hA hH=>((q3d Y).trans (by rw [shr_byte x k hk7])).trans Y));have hgl:∀ q,v.ownBlock=some q→q < w1.heap.size:=fun q hq=>by
       obtain ⟨_,cs,fz,h⟩:=q3m ov q hq;exact (Array.getElem?_eq_some_iff.1 h).1
     with_reducible apply DW_d (F:=fun _ u w'=>RowF w1 1 u 1 (ints .u8 [z1d x k]) w')
     exact fun r u hA hH=>⟨_,_,z3d Y Y,q1k _ _,RowF.lit u _ _ hA.g.size 1 Y (by unfold maxLen;omega)⟩;exact fun i r u a b hi _ hR ⟨lo,hi,e1,e2⟩=>⟨lo,hi,e1,e2.grown hR.grown fun q hq=>.inl (Nat.lt_of_lt_of_le (hgl q hq) e1)⟩;exact fun r u=>rfl;with_reducible apply DW_app (w0:=w1) (v:=v) (kx:=10) (q:=1) (size:=1) (bytes:=1) (m:=xs.length) (base:=B) (xs:=ints .u8 xs) (ys:=ints .u8 [z1d x k])
     exact fun r=>rfl;exact fun r=>rfl;kernel_rfl;rfl;exact fun u hA=>⟨hA.o,Nat.le_trans hB1 hA.g.size⟩;exact fun r u h=>h;exact fun q hq=>(by rw [List.mem_singleton.1 hq];rfl);omega;omega;((with_reducible exact q2c);(exact rfl);(repeat (first | exact .inr (.inr (fun _ _=>by with_reducible rfl)) | (refine And.intro ?_ ?_) | exact .inr (.inl rfl) | exact .inl (by decide +kernel) | exact trivial | exact .inr (.inr (fun _ _=>rfl))));(try dsimp only [Nat.reduceAdd]));intro r w2 hA H;have o2:w2.ownsRow B 5 1 (r 11) (xs.length+1) (ints .u8 xs++ints .u8 [z1d x k]):=H 11;have b2:=BA hA;have hB2:=hA.g.size;have hK2:EncK B p w w2:=hK.trans (EncK.own ov hA.g);generalize r 11=v2 at *;have hv2:=q3s (Row.of_own o2);(refine Ls (q1m Y)<|Ls (q0g Y) ?_);refine q1b (v:=v2) Y Y hv2 b2 (by simp) ?_;intro w3 b3 hg3 _;have hne2:=z0j o2 b2;have o3:=q2n o2 hg3 fun q hq e=>hne2 q hq (Option.some.inj e).symm;(refine q0c<|bn<|tn<|q0a<|Ls (q1c Y Y (by omega))<|m_I Y<|q0c<|tn ?_);refine ⟨n - (k+1),by omega,k+1,rfl,by omega,rfl,rfl,rfl,rfl,Nat.le_trans (Nat.le_trans hB1 hB2) hg3.size,⟨v2,b3,?_⟩,hK2.trans (EncK.set hg3)⟩;rw [byN_snoc,← List.append_assoc,← hxs,q4p,List.length_append];exact o3
   · have hk8:k=n:=(by omega);subst hk8;(refine q1d<|te<|te<|bx ?_);refine q1h Y Y ?_;exact ⟨rfl,⟨v,bv,ov⟩,hK⟩
end Go.Proofs.YtlcnkadkbcoadaaGreatDoor
namespace Go.Proofs.YtlcnkadkbcoadaaGreatDoor
open Go.Proofs.K
instance:TFun Tryz.prog 4:=q0u Tryz.func4 (by kernel_rfl) (by kernel_rfl)
instance:TFun Tryz.prog 5:=q0u Tryz.func5 (by kernel_rfl) (by kernel_rfl)
instance:TFun Tryz.prog 6:=q0u Tryz.func6 (by kernel_rfl) (by kernel_rfl)
instance:TFun Tryz.prog 7:=q0u Tryz.func7 (by kernel_rfl) (by kernel_rfl)
instance:TFun Tryz.prog 8:=q0u Tryz.func8 (by kernel_rfl) (by kernel_rfl)
instance:TFun Tryz.prog 9:=q0u Tryz.func9 (by kernel_rfl) (by kernel_rfl)
instance:TFun Tryz.prog 10:=q0u Tryz.func10 (by kernel_rfl) (by kernel_rfl)
instance:TFun Tryz.prog 11:=q0u Tryz.func11 (by kernel_rfl) (by kernel_rfl)
instance:TFun Tryz.prog 12:=q0u Tryz.func12 (by kernel_rfl) (by kernel_rfl)
instance:TFun Tryz.prog 13:=q0u Tryz.func13 (by kernel_rfl) (by kernel_rfl)
instance:TFun Tryz.prog 14:=q0u Tryz.func14 (by kernel_rfl) (by kernel_rfl)
instance:TFun Tryz.prog 15:=q0u Tryz.func15 (by kernel_rfl) (by kernel_rfl)
instance:TFun Tryz.prog 16:=q0u Tryz.func16 (by kernel_rfl) (by kernel_rfl)
instance:TFun Tryz.prog 17:=q0u Tryz.func17 (by kernel_rfl) (by kernel_rfl)
instance:TFun Tryz.prog 18:=q0u Tryz.func18 (by kernel_rfl) (by kernel_rfl)
instance:TFun Tryz.prog 19:=q0u Tryz.func19 (by kernel_rfl) (by kernel_rfl)
instance:TFun Tryz.prog 20:=q0u Tryz.func20 (by kernel_rfl) (by kernel_rfl)
instance:TFun Tryz.prog 21:=q0u Tryz.func21 (by kernel_rfl) (by kernel_rfl)
instance:TFun Tryz.prog 22:=q0u Tryz.func22 (by kernel_rfl) (by kernel_rfl)
instance:TFun Tryz.prog 23:=q0u Tryz.func23 (by kernel_rfl) (by kernel_rfl)
instance:TFun Tryz.prog 24:=q0u Tryz.func24 (by kernel_rfl) (by kernel_rfl)
instance:TFun Tryz.prog 25:=q0u Tryz.func25 (by kernel_rfl) (by kernel_rfl)
instance:TFun Tryz.prog 26:=q0u Tryz.func26 (by kernel_rfl) (by kernel_rfl)
instance:TFun Tryz.prog 27:=q0u Tryz.func27 (by kernel_rfl) (by kernel_rfl)
instance:TFun Tryz.prog 28:=q0u Tryz.func28 (by kernel_rfl) (by kernel_rfl)
instance:TFun Tryz.prog 29:=q0u Tryz.func29 (by kernel_rfl) (by kernel_rfl)
instance:TFun Tryz.prog 30:=q0u Tryz.func30 (by kernel_rfl) (by kernel_rfl)
instance:TFun Tryz.prog 32:=q0u Tryz.func32 (by kernel_rfl) (by kernel_rfl)
instance:TFun Tryz.prog 33:=q0u Tryz.func33 (by kernel_rfl) (by kernel_rfl)
instance:TFun Tryz.prog 34:=q0u Tryz.func34 (by kernel_rfl) (by kernel_rfl)
instance:TFun Tryz.prog 35:=q0u Tryz.func35 (by kernel_rfl) (by kernel_rfl)
instance:TFun Tryz.prog 36:=q0u Tryz.func36 (by kernel_rfl) (by kernel_rfl)
instance:TFun Tryz.prog 37:=q0u Tryz.func37 (by kernel_rfl) (by kernel_rfl)
instance:TFun Tryz.prog 49:=q0u Tryz.func49 (by kernel_rfl) (by kernel_rfl)
instance:TFun Tryz.prog 50:=q0u Tryz.func50 (by kernel_rfl) (by kernel_rfl)
instance:TFun Tryz.prog 51:=q0u Tryz.func51 (by kernel_rfl) (by kernel_rfl)
instance:TFun Tryz.prog 52:=q0u Tryz.func52 (by kernel_rfl) (by kernel_rfl)
instance:TFun Tryz.prog 53:=q0u Tryz.func53 (by kernel_rfl) (by kernel_rfl)
instance:TFun Tryz.prog 54:=q0u Tryz.func54 (by kernel_rfl) (by kernel_rfl)
instance:TFun Tryz.prog 55:=q0u Tryz.func55 (by kernel_rfl) (by kernel_rfl)
instance:TFun Tryz.prog 56:=q0u Tryz.func56 (by kernel_rfl) (by kernel_rfl)
instance:TFun Tryz.prog 57:=q0u Tryz.func57 (by kernel_rfl) (by kernel_rfl)
instance:TFun Tryz.prog 58:=q0u Tryz.func58 (by kernel_rfl) (by kernel_rfl)
instance:TFun Tryz.prog 59:=q0u Tryz.func59 (by kernel_rfl) (by kernel_rfl)
instance:TFun Tryz.prog 60:=q0u Tryz.func60 (by kernel_rfl) (by kernel_rfl)
instance:TFun Tryz.prog 61:=q0u Tryz.func61 (by kernel_rfl) (by kernel_rfl)
instance:TFun Tryz.prog 62:=q0u Tryz.func62 (by kernel_rfl) (by kernel_rfl)
instance:TFun Tryz.prog 63:=q0u Tryz.func63 (by kernel_rfl) (by kernel_rfl)
instance:TFun Tryz.prog 64:=q0u Tryz.func64 (by kernel_rfl) (by kernel_rfl)
instance:TFun Tryz.prog 65:=q0u Tryz.func65 (by kernel_rfl) (by kernel_rfl)
instance:TFun Tryz.prog 66:=q0u Tryz.func66 (by kernel_rfl) (by kernel_rfl)
instance:TFun Tryz.prog 67:=q0u Tryz.func67 (by kernel_rfl) (by kernel_rfl)
instance:TFun Tryz.prog 68:=q0u Tryz.func68 (by kernel_rfl) (by kernel_rfl)
instance:TFun Tryz.prog 69:=q0u Tryz.func69 (by kernel_rfl) (by kernel_rfl)
instance:TFun Tryz.prog 70:=q0u Tryz.func70 (by kernel_rfl) (by kernel_rfl)
instance:TFun Tryz.prog 71:=q0u Tryz.func71 (by kernel_rfl) (by kernel_rfl)
instance:TFun Tryz.prog 72:=q0u Tryz.func72 (by kernel_rfl) (by kernel_rfl)
instance:TFun Tryz.prog 73:=q0u Tryz.func73 (by kernel_rfl) (by kernel_rfl)
instance:TFun Tryz.prog 74:=q0u Tryz.func74 (by kernel_rfl) (by kernel_rfl)
instance:TFun Tryz.prog 75:=q0u Tryz.func75 (by kernel_rfl) (by kernel_rfl)
instance:TFun Tryz.prog 76:=q0u Tryz.func76 (by kernel_rfl) (by kernel_rfl)
instance:TFun Tryz.prog 77:=q0u Tryz.func77 (by kernel_rfl) (by kernel_rfl)
instance:TFun Tryz.prog 78:=q0u Tryz.func78 (by kernel_rfl) (by kernel_rfl)
instance:TFun Tryz.prog 80:=q0u Tryz.func80 (by kernel_rfl) (by kernel_rfl)
instance:TFun Tryz.prog 81:=q0u Tryz.func81 (by kernel_rfl) (by kernel_rfl)
instance:TFun Tryz.prog 82:=q0u Tryz.func82 (by kernel_rfl) (by kernel_rfl)
instance:TFun Tryz.prog 83:=q0u Tryz.func83 (by kernel_rfl) (by kernel_rfl)
instance:TFun Tryz.prog 84:=q0u Tryz.func84 (by kernel_rfl) (by kernel_rfl)
instance:TFun Tryz.prog 85:=q0u Tryz.func85 (by kernel_rfl) (by kernel_rfl)
instance:TFun Tryz.prog 86:=q0u Tryz.func86 (by kernel_rfl) (by kernel_rfl)
instance:TFun Tryz.prog 87:=q0u Tryz.func87 (by kernel_rfl) (by kernel_rfl)
instance:TFun Tryz.prog 88:=q0u Tryz.func88 (by kernel_rfl) (by kernel_rfl)
instance:TFun Tryz.prog 89:=q0u Tryz.func89 (by kernel_rfl) (by kernel_rfl)
instance:TFun Tryz.prog 90:=q0u Tryz.func90 (by kernel_rfl) (by kernel_rfl)
instance:TFun Tryz.prog 104:=q0u Tryz.func104 (by kernel_rfl) (by kernel_rfl)
instance:TFun Tryz.prog 106:=q0u Tryz.func106 (by kernel_rfl) (by kernel_rfl)
instance:TFun Tryz.prog 107:=q0u Tryz.func107 (by kernel_rfl) (by kernel_rfl)
instance:TFun Tryz.prog 126:=q0u Tryz.func126 (by kernel_rfl) (by kernel_rfl)
instance:TFun Tryz.prog 127:=q0u Tryz.func127 (by kernel_rfl) (by kernel_rfl)
instance:TFun Tryz.prog 128:=q0u Tryz.func128 (by kernel_rfl) (by kernel_rfl)
instance:TFun Tryz.prog 129:=q0u Tryz.func129 (by kernel_rfl) (by kernel_rfl)
instance:TFun Tryz.prog 130:=q0u Tryz.func130 (by kernel_rfl) (by kernel_rfl)
instance:TFun Tryz.prog 131:=q0u Tryz.func131 (by kernel_rfl) (by kernel_rfl)
instance:TFun Tryz.prog 132:=q0u Tryz.func132 (by kernel_rfl) (by kernel_rfl)
instance:TFun Tryz.prog 133:=q0u Tryz.func133 (by kernel_rfl) (by kernel_rfl)
instance:TFun Tryz.prog 134:=q0u Tryz.func134 (by kernel_rfl) (by kernel_rfl)
instance:TFun Tryz.prog 135:=q0u Tryz.func135 (by kernel_rfl) (by kernel_rfl)
instance:TFun Tryz.prog 136:=q0u Tryz.func136 (by kernel_rfl) (by kernel_rfl)
instance:TFun Tryz.prog 137:=q0u Tryz.func137 (by kernel_rfl) (by kernel_rfl)
instance:TFun Tryz.prog 138:=q0u Tryz.func138 (by kernel_rfl) (by kernel_rfl)
instance:TFun Tryz.prog 139:=q0u Tryz.func139 (by kernel_rfl) (by kernel_rfl)
instance:TFun Tryz.prog 140:=q0u Tryz.func140 (by kernel_rfl) (by kernel_rfl)
instance:TFun Tryz.prog 141:=q0u Tryz.func141 (by kernel_rfl) (by kernel_rfl)
instance:TFun Tryz.prog 142:=q0u Tryz.func142 (by kernel_rfl) (by kernel_rfl)
instance:TFun Tryz.prog 143:=q0u Tryz.func143 (by kernel_rfl) (by kernel_rfl)
instance:TFun Tryz.prog 144:=q0u Tryz.func144 (by kernel_rfl) (by kernel_rfl)
instance:TFun Tryz.prog 145:=q0u Tryz.func145 (by kernel_rfl) (by kernel_rfl)
instance:TFun Tryz.prog 146:=q0u Tryz.func146 (by kernel_rfl) (by kernel_rfl)
instance:TFun Tryz.prog 147:=q0u Tryz.func147 (by kernel_rfl) (by kernel_rfl)
instance:TFun Tryz.prog 148:=q0u Tryz.func148 (by kernel_rfl) (by kernel_rfl)
instance:TFun Tryz.prog 149:=q0u Tryz.func149 (by kernel_rfl) (by kernel_rfl)
instance:TFun Tryz.prog 150:=q0u Tryz.func150 (by kernel_rfl) (by kernel_rfl)
instance:TFun Tryz.prog 151:=q0u Tryz.func151 (by kernel_rfl) (by kernel_rfl)
instance:TFun Tryz.prog 152:=q0u Tryz.func152 (by kernel_rfl) (by kernel_rfl)
instance:TFun Tryz.prog 153:=q0u Tryz.func153 (by kernel_rfl) (by kernel_rfl)
instance:TFun Tryz.prog 154:=q0u Tryz.func154 (by kernel_rfl) (by kernel_rfl)
instance:TFun Tryz.prog 155:=q0u Tryz.func155 (by kernel_rfl) (by kernel_rfl)
instance:TFun Tryz.prog 156:=q0u Tryz.func156 (by kernel_rfl) (by kernel_rfl)
instance:TFun Tryz.prog 157:=q0u Tryz.func157 (by kernel_rfl) (by kernel_rfl)
instance:TFun Tryz.prog 158:=q0u Tryz.func158 (by kernel_rfl) (by kernel_rfl)
instance:TFun Tryz.prog 159:=q0u Tryz.func159 (by kernel_rfl) (by kernel_rfl)
instance:TFun Tryz.prog 160:=q0u Tryz.func160 (by kernel_rfl) (by kernel_rfl)
instance:TFun Tryz.prog 161:=q0u Tryz.func161 (by kernel_rfl) (by kernel_rfl)
instance:TFun Tryz.prog 162:=q0u Tryz.func162 (by kernel_rfl) (by kernel_rfl)
instance:TFun Tryz.prog 163:=q0u Tryz.func163 (by kernel_rfl) (by kernel_rfl)
instance:TFun Tryz.prog 164:=q0u Tryz.func164 (by kernel_rfl) (by kernel_rfl)
instance:TFun Tryz.prog 165:=q0u Tryz.func165 (by kernel_rfl) (by kernel_rfl)
instance:TFun Tryz.prog 166:=q0u Tryz.func166 (by kernel_rfl) (by kernel_rfl)
instance:TFun Tryz.prog 167:=q0u Tryz.func167 (by kernel_rfl) (by kernel_rfl)
instance:TFun Tryz.prog 168:=q0u Tryz.func168 (by kernel_rfl) (by kernel_rfl)
instance:TFun Tryz.prog 169:=q0u Tryz.func169 (by kernel_rfl) (by kernel_rfl)
instance:TFun Tryz.prog 170:=q0u Tryz.func170 (by kernel_rfl) (by kernel_rfl)
instance:TFun Tryz.prog 171:=q0u Tryz.func171 (by kernel_rfl) (by kernel_rfl)
instance:TFun Tryz.prog 172:=q0u Tryz.func172 (by kernel_rfl) (by kernel_rfl)
instance:TFun Tryz.prog 216:=q0u Tryz.func216 (by kernel_rfl) (by kernel_rfl)
instance:TFun Tryz.prog 227:=q0u Tryz.func227 (by kernel_rfl) (by kernel_rfl)
instance:TFun Tryz.prog 228:=q0u Tryz.func228 (by kernel_rfl) (by kernel_rfl)
instance:TFun Tryz.prog 242:=q0u Tryz.func242 (by kernel_rfl) (by kernel_rfl)
instance:TFun Tryz.prog 244:=q0u Tryz.func244 (by kernel_rfl) (by kernel_rfl)
instance:TFun Tryz.prog 246:=q0u Tryz.func246 (by kernel_rfl) (by kernel_rfl)
instance:TFun Tryz.prog 252:=q0u Tryz.func252 (by kernel_rfl) (by kernel_rfl)
instance:TFun Tryz.prog 253:=q0u Tryz.func253 (by kernel_rfl) (by kernel_rfl)
instance:TFun Tryz.prog 254:=q0u Tryz.func254 (by kernel_rfl) (by kernel_rfl)
instance:TFun Tryz.prog 255:=q0u Tryz.func255 (by kernel_rfl) (by kernel_rfl)
instance:TFun Tryz.prog 256:=q0u Tryz.func256 (by kernel_rfl) (by kernel_rfl)
instance:TFun Tryz.prog 257:=q0u Tryz.func257 (by kernel_rfl) (by kernel_rfl)
instance:TFun Tryz.prog 258:=q0u Tryz.func258 (by kernel_rfl) (by kernel_rfl)
instance:TFun Tryz.prog 259:=q0u Tryz.func259 (by kernel_rfl) (by kernel_rfl)
instance:TFun Tryz.prog 260:=q0u Tryz.func260 (by kernel_rfl) (by kernel_rfl)
instance:TFun Tryz.prog 261:=q0u Tryz.func261 (by kernel_rfl) (by kernel_rfl)
instance:TFun Tryz.prog 262:=q0u Tryz.func262 (by kernel_rfl) (by kernel_rfl)
instance:TFun Tryz.prog 263:=q0u Tryz.func263 (by kernel_rfl) (by kernel_rfl)
instance:TFun Tryz.prog 264:=q0u Tryz.func264 (by kernel_rfl) (by kernel_rfl)
instance:TFun Tryz.prog 265:=q0u Tryz.func265 (by kernel_rfl) (by kernel_rfl)
instance:TFun Tryz.prog 266:=q0u Tryz.func266 (by kernel_rfl) (by kernel_rfl)
instance:TFun Tryz.prog 267:=q0u Tryz.func267 (by kernel_rfl) (by kernel_rfl)
instance:TFun Tryz.prog 268:=q0u Tryz.func268 (by kernel_rfl) (by kernel_rfl)
instance:TFun Tryz.prog 269:=q0u Tryz.func269 (by kernel_rfl) (by kernel_rfl)
instance:TFun Tryz.prog 270:=q0u Tryz.func270 (by kernel_rfl) (by kernel_rfl)
instance:TFun Tryz.prog 273:=q0u Tryz.func273 (by kernel_rfl) (by kernel_rfl)
instance:TFun Tryz.prog 274:=q0u Tryz.func274 (by kernel_rfl) (by kernel_rfl)
instance:TFun Tryz.prog 275:=q0u Tryz.func275 (by kernel_rfl) (by kernel_rfl)
instance:TFun Tryz.prog 276:=q0u Tryz.func276 (by kernel_rfl) (by kernel_rfl)
instance:TFun Tryz.prog 277:=q0u Tryz.func277 (by kernel_rfl) (by kernel_rfl)
instance:TFun Tryz.prog 278:=q0u Tryz.func278 (by kernel_rfl) (by kernel_rfl)
instance:TFun Tryz.prog 287:=q0u Tryz.func287 (by kernel_rfl) (by kernel_rfl)
instance:TFun Tryz.prog 313:=q0u Tryz.func313 (by kernel_rfl) (by kernel_rfl)
instance:TFun Tryz.prog 314:=q0u Tryz.func314 (by kernel_rfl) (by kernel_rfl)
instance:TFun Tryz.prog 315:=q0u Tryz.func315 (by kernel_rfl) (by kernel_rfl)
instance:TFun Tryz.prog 316:=q0u Tryz.func316 (by kernel_rfl) (by kernel_rfl)
instance:TFun Tryz.prog 317:=q0u Tryz.func317 (by kernel_rfl) (by kernel_rfl)
instance:TFun Tryz.prog 325:=q0u Tryz.func325 (by kernel_rfl) (by kernel_rfl)
instance:TFun Tryz.prog 326:=q0u Tryz.func326 (by kernel_rfl) (by kernel_rfl)
instance:TFun Tryz.prog 327:=q0u Tryz.func327 (by kernel_rfl) (by kernel_rfl)
instance:TFun Tryz.prog 328:=q0u Tryz.func328 (by kernel_rfl) (by kernel_rfl)
instance:TFun Tryz.prog 338:=q0u Tryz.func338 (by kernel_rfl) (by kernel_rfl)
instance:TFun Tryz.prog 339:=q0u Tryz.func339 (by kernel_rfl) (by kernel_rfl)
instance:TFun Tryz.prog 340:=q0u Tryz.func340 (by kernel_rfl) (by kernel_rfl)
instance:TFun Tryz.prog 341:=q0u Tryz.func341 (by kernel_rfl) (by kernel_rfl)
instance:TFun Tryz.prog 342:=q0u Tryz.func342 (by kernel_rfl) (by kernel_rfl)
instance:TFun Tryz.prog 343:=q0u Tryz.func343 (by kernel_rfl) (by kernel_rfl)
instance:TFun Tryz.prog 344:=q0u Tryz.func344 (by kernel_rfl) (by kernel_rfl)
instance:TFun Tryz.prog 345:=q0u Tryz.func345 (by kernel_rfl) (by kernel_rfl)
instance:TFun Tryz.prog 346:=q0u Tryz.func346 (by kernel_rfl) (by kernel_rfl)
instance:TFun Tryz.prog 350:=q0u Tryz.func350 (by kernel_rfl) (by kernel_rfl)
instance:TFun Tryz.prog 351:=q0u Tryz.func351 (by kernel_rfl) (by kernel_rfl)
instance:TFun Tryz.prog 352:=q0u Tryz.func352 (by kernel_rfl) (by kernel_rfl)
instance:TFun Tryz.prog 355:=q0u Tryz.func355 (by kernel_rfl) (by kernel_rfl)
instance:TFun Tryz.prog 391:=q0u Tryz.func391 (by kernel_rfl) (by kernel_rfl)
instance:TFun Tryz.prog 392:=q0u Tryz.func392 (by kernel_rfl) (by kernel_rfl)
instance:TFun Tryz.prog 393:=q0u Tryz.func393 (by kernel_rfl) (by kernel_rfl)
instance:TFun Tryz.prog 396:=q0u Tryz.func396 (by kernel_rfl) (by kernel_rfl)
instance:TFun Tryz.prog 397:=q0u Tryz.func397 (by kernel_rfl) (by kernel_rfl)
instance:TFun Tryz.prog 398:=q0u Tryz.func398 (by kernel_rfl) (by kernel_rfl)
instance:TFun Tryz.prog 413:=q0u Tryz.func413 (by kernel_rfl) (by kernel_rfl)
instance:TFun Tryz.prog 414:=q0u Tryz.func414 (by kernel_rfl) (by kernel_rfl)
instance:TFun Tryz.prog 415:=q0u Tryz.func415 (by kernel_rfl) (by kernel_rfl)
instance:TFun Tryz.prog 416:=q0u Tryz.func416 (by kernel_rfl) (by kernel_rfl)
instance:TFun Tryz.prog 417:=q0u Tryz.func417 (by kernel_rfl) (by kernel_rfl)
instance:TFun Tryz.prog 423:=q0u Tryz.func423 (by kernel_rfl) (by kernel_rfl)
instance:TFun Tryz.prog 424:=q0u Tryz.func424 (by kernel_rfl) (by kernel_rfl)
instance:TFun Tryz.prog 433:=q0u Tryz.func433 (by kernel_rfl) (by kernel_rfl)
instance:TFun Tryz.prog 449:=q0u Tryz.func449 (by kernel_rfl) (by kernel_rfl)
instance:TFun Tryz.prog 450:=q0u Tryz.func450 (by kernel_rfl) (by kernel_rfl)
instance:TFun Tryz.prog 455:=q0u Tryz.func455 (by kernel_rfl) (by kernel_rfl)
instance:TFun Tryz.prog 464:=q0u Tryz.func464 (by kernel_rfl) (by kernel_rfl)
instance:TFun Tryz.prog 465:=q0u Tryz.func465 (by kernel_rfl) (by kernel_rfl)
instance:TFun Tryz.prog 467:=q0u Tryz.func467 (by kernel_rfl) (by kernel_rfl)
instance:TFun Tryz.prog 470:=q0u Tryz.func470 (by kernel_rfl) (by kernel_rfl)
instance:TFun Tryz.prog 471:=q0u Tryz.func471 (by kernel_rfl) (by kernel_rfl)
instance:TFun Tryz.prog 472:=q0u Tryz.func472 (by kernel_rfl) (by kernel_rfl)
instance:TFun Tryz.prog 473:=q0u Tryz.func473 (by kernel_rfl) (by kernel_rfl)
end Go.Proofs.YtlcnkadkbcoadaaGreatDoor
namespace Go.Proofs.YtlcnkadkbcoadaaGreatDoor
open Go.RowKit Go.Proofs.K
def EncR (B p:Nat) (l bs:List Nat) (w:World) (e:Ending) (w':World):Prop:=e=.returned (.tuple #[])∧EncAt B p w' (l++bs)∧EncK B p w w'
theorem gint (B p x:Nat) (l:List Nat) (w:World) (hx:x < 4294967296) (hl:l.length≤100000000) (hB:B≤w.heap.size) (he:EncAt B p w l) :
   Calls Tryz.prog 59 #[.pointer (some ⟨p,0,none⟩),.int .i64 (x:Nat)] w (EncR B p l (Ce.byN 4 x) w):=by
 refine q0j Tryz.func59 Y Tryz.ntmps59 Y ?_;(refine q0a<|m_P Y<|m_I Y<|Ls ((q3d Y).trans (by rw [q7f,Nat.mod_eq_of_lt (show x < 18446744073709551616 by omega)])) ?_);refine L_fn (gfixed B p 4 x l w (by omega) (by omega) hl hB he) Y ?_;rintro e w2 ⟨rfl,h2,k2⟩;refine ⟨_,rfl,?_⟩;(refine q0c ?_);refine q1h Y Y ?_;exact ⟨rfl,h2,k2⟩
theorem gword (B p x:Nat) (l:List Nat) (w:World) (hx:x < 18446744073709551616) (hl:l.length≤100000000) (hB:B≤w.heap.size) (he:EncAt B p w l) :
   Calls Tryz.prog 145 #[.pointer (some ⟨p,0,none⟩),.int .u64 (x:Nat)] w (EncR B p l (Ce.byN 8 x) w):=by
 refine q0j Tryz.func145 Y Tryz.ntmps145 Y ?_;(refine q0a<|m_P Y<|m_I Y ?_);refine L_fn (gfixed B p 8 x l w (by omega) (by omega) hl hB he) Y ?_;rintro e w2 ⟨rfl,h2,k2⟩;refine ⟨_,rfl,?_⟩;(refine q0c ?_);refine q1h Y Y ?_;exact ⟨rfl,h2,k2⟩
def u64v (x:Int):Nat:=(x % 18446744073709551616).toNat
theorem u64v_lt (x:Int):u64v x < 18446744073709551616:=by unfold u64v;omega
theorem u64v_wrap (x:Int):IntKind.u64.wrap x=((u64v x:Nat):Int):=by
 unfold u64v;rw [IntKind.wrap_u64];omega
theorem gsum (B p:Nat) (x:Int) (l:List Nat) (w:World) (hl:l.length≤100000000) (hB:B≤w.heap.size) (he:EncAt B p w l) :
   Calls Tryz.prog 62 #[.pointer (some ⟨p,0,none⟩),.int .i64 x] w (EncR B p l (Ce.byN 8 (u64v x)) w):=by
 refine q0j Tryz.func62 Y Tryz.ntmps62 Y ?_;(refine q0a<|m_P Y<|m_I Y<|Ls ((q3d Y).trans (by rw [u64v_wrap])) ?_);refine L_fn (gfixed B p 8 (u64v x) l w (u64v_lt x) (by omega) hl hB he) Y ?_;rintro e w2 ⟨rfl,h2,k2⟩;refine ⟨_,rfl,?_⟩;(refine q0c ?_);refine q1h Y Y ?_;exact ⟨rfl,h2,k2⟩
theorem EncAt.ext {B p:Nat} {l:List Nat} {w w':World} (h:EncAt B p w l) (E:Ext w w'):EncAt B p w' l:=by
 obtain ⟨v,b,o⟩:=h;exact ⟨v,b.ext E,q1g o E⟩
theorem EncAt.lt {B p:Nat} {l:List Nat} {w:World} (h:EncAt B p w l):p < w.heap.size:=by
 obtain ⟨v,b,o⟩:=h;exact q2b b
theorem gext (B p x y:Nat) (l:List Nat) (w:World) (hx:x < 18446744073709551616) (hy:y < 18446744073709551616) (hl:l.length≤99999992) (hB:B≤w.heap.size) (he:EncAt B p w l) :
   Calls Tryz.prog 67 #[.pointer (some ⟨p,0,none⟩),.agg (exC x y).toArray] w (EncR B p l (Ce.byN 8 x++Ce.byN 8 y) w):=by
 refine q0j Tryz.func67 Y Tryz.ntmps67 Y ?_;have hp:=he.lt;(refine q0b<|q0a ?_);refine q2s (l:=exC x y) Y ?_;intro g2 w2 B2 hg2 E2 hs2;(refine q0c<|tn<|q0b<|q0a<|m_P Y<|Ls (q0g Y)<|Ls (X_ld Y B2 Y) ?_);refine L_fn (gword B p x l w2 hx (by omega) (Nat.le_trans hB E2.size) (he.ext E2)) Y ?_;rintro e w3 ⟨rfl,h3,k3⟩;refine ⟨_,rfl,?_⟩;have B3:=k3.k.blk B2 (by omega) (.inr (by decide));have hl3:(l++Ce.byN 8 x).length≤100000000:=by rw [List.length_append,Ce.byN_len];omega
 (refine q0c<|tn<|q0a<|m_P Y<|Ls (q0g Y)<|Ls (X_ld Y B3 Y) ?_);refine L_fn (gword B p y (l++Ce.byN 8 x) w3 hy hl3 (Nat.le_trans (Nat.le_trans hB E2.size) k3.k.size) h3) Y ?_;rintro e w4 ⟨rfl,h4,k4⟩;refine ⟨_,rfl,?_⟩;(refine q0c ?_);refine q1h Y Y ?_;refine ⟨rfl,?_,(EncK.of_ext E2).trans (k3.trans k4)⟩;rw [← List.append_assoc];exact h4
theorem gbyte (B p x:Nat) (l:List Nat) (w:World) (hl:l.length≤100000000) (hB:B≤w.heap.size) (he:EncAt B p w l) :
   Calls Tryz.prog 58 #[.pointer (some ⟨p,0,none⟩),.int .u8 (x:Nat)] w (EncR B p l [x] w):=by
 refine q0j Tryz.func58 Y Tryz.ntmps58 Y ?_;obtain ⟨v,bv,ov⟩:=he;have hv1:=q3s (Row.of_own ov);(refine q0a<|m_P Y<|m_P Y<|Ls (q1m Y)<|Ls (q0g Y)<|Ls (X_ld Y bv Y)<|m_I Y ?_);refine q4n (v:=.int .u8 _) Y Y ?_;intro u2 w2 r2 E2 hs2 _;refine q1u (v:=v) (u:=u2) Y Y (q1g ov E2) r2 (fun q hq=>by rw [List.mem_singleton.1 hq];rfl) (by omega) (by omega) (by have:=E2.size;omega) ?_;intro v3 w3 o3 hg3 _;have o2:=q1g ov E2;have b3:=(bv.ext E2).grown hg3 fun h=>z0j o2 (bv.ext E2) _ h Y;have hv3:=q3s (Row.of_own o3);(refine Ls (q1m Y)<|Ls (q0g Y) ?_);refine q1b (v:=v3) Y Y hv3 b3 (by simp) ?_;intro w4 b4 hg4 _;have hne:=z0j o3 b3;have o4:=q2n o3 hg4 fun q hq e=>hne q hq (Option.some.inj e).symm;(refine q0c ?_);refine q1h Y Y ?_;refine ⟨rfl,⟨v3,b4,?_⟩,(EncK.of_ext E2).trans ((EncK.own o2 hg3).trans (EncK.set hg4))⟩;rw [q4p,List.length_append];exact o4
def Far (N:Nat→Prop) (B p:Nat):Prop:=∀ q,N q→q ≠ p∧q < B
def q8y (id:FuncId) (first cap:Array Value) (B p:Nat) (N:Nat→Prop) {α:Type} (R:Rep α) (arg:List Value→Value) (bs:α→List Nat) (l:List α) (w0:World):Prop :=
 ∀ (i:Nat) (a:α),l[i]?=some a→∀ (w:World) (x:List Value) (l0:List Nat),EncK B p w0 w→R N w x a→l0.length+(bs a).length≤99999000→B≤w.heap.size→EncAt B p w l0→Calls Tryz.prog id (first++#[arg x]++cap) w (EncR B p l0 (bs a) w)
theorem q6o {α:Type} (bs:α→List Nat) (l:List α) (i:Nat) (a:α) (h:l[i]?=some a):((l.take i).flatMap bs).length+(bs a).length≤(l.flatMap bs).length:=by
 have e:l.flatMap bs=(l.take i).flatMap bs++(bs a++(l.drop (i+1)).flatMap bs):=by
   have hlt:=(List.getElem?_eq_some_iff.1 h).1;have ha:=(List.getElem?_eq_some_iff.1 h).2;conv=>lhs;rw [← List.take_append_drop i l]
   rw [List.flatMap_append,List.drop_eq_getElem_cons hlt,List.flatMap_cons,ha]
 rw [e,List.length_append,List.length_append];omega
theorem q4x {α:Type} (bs:α→List Nat) (l:List α) (i:Nat) (a:α) (h:l[i]?=some a):(l.take (i+1)).flatMap bs=(l.take i).flatMap bs++bs a:=by
 rw [List.take_add_one,h,List.flatMap_append];simp
theorem gslR {α:Type} {R:Rep α} (hR:R.Ok) (id:FuncId) [TFun Tryz.prog id] (first cap:Array Value) (B p:Nat) (N:Nat→Prop) (bs:α→List Nat) (l:List α) (v:Value) (l0:List Nat) (w:World) (hN:Far N B p)
   (hf:q8y id first cap B p N R (fun x=>x.headD .nilIface) bs l w) (hv:slR 1 R N w [v] l) (hl:l.length < 4294967296) (hb:l0.length+4+(l.flatMap bs).length≤99999000) (hB:B≤w.heap.size) (he:EncAt B p w l0) :
   Calls Tryz.prog 63 #[.pointer (some ⟨p,0,none⟩),v,.func (.func id) first cap] w (EncR B p l0 (Ce.byN 4 l.length++l.flatMap bs) w):=by
 refine q0j Tryz.func63 Y Tryz.ntmps63 Y ?_;obtain ⟨A,c,e,hc,hcm⟩:=q2m hv;obtain rfl:v=.slice A l.length c:=by simpa using e
 (refine q0b<|q0a<|m_P Y<|m_S Y<|Ls (q0i Y) ?_);refine L_fn (gint B p l.length l0 w hl (by omega) hB he) Y ?_;rintro e w2 ⟨rfl,h2,k2⟩;refine ⟨_,rfl,?_⟩;(refine q0c<|tn<|q0b<|q0a<|m_S Y<|Ls (q0i Y)<|m_I Y<|q0c<|tn<|q0p ?_);refine q1e (fun q f w'=>∃ i,q=l.length - i∧i≤l.length∧f 2=.func (.func id) first cap∧f 12=.slice A l.length c∧f 13=.int .i64 (l.length:Nat)∧f 14=.int .i64 (i:Nat)∧EncAt B p w' (l0++Ce.byN 4 l.length++(l.take i).flatMap bs)∧EncK B p w w') l.length ?_ ?_
 · exact ⟨0,rfl,by omega,rfl,rfl,rfl,rfl,by simpa using h2,k2⟩
 · rintro q f w3 ⟨i,rfl,hi,f2,f12,f13,f14,h3,k3⟩;rw [fold f2,fold f12,fold f13,fold f14];(refine q0b<|q0a<|Ls (q2h Y Y)<|q0c<|tn<|q0b ?_);refine q0x Y (fun h=>?_) (fun h=>?_)
   · have hi':i < l.length:=(by omega);obtain ⟨a,ha⟩:∃ a,l[i]?=some a:=⟨_,List.getElem?_eq_getElem hi'⟩;have hv3:=(q1x (by decide) hR).keep hv k3.k hN;obtain ⟨b,o,c',y,e,_,_,hy,hcell,hya⟩:=q3q hv3 ha;cases e
     have hfl:=q6o bs l i a ha;have hlen:(l0++Ce.byN 4 l.length++(l.take i).flatMap bs).length+(bs a).length≤99999000:=by
       rw [List.length_append,List.length_append,Ce.byN_len];omega
     have hB3:=Nat.le_trans hB k3.k.size;obtain ⟨u,rfl⟩:∃ u,y=[u]:=by
       match y,hy with
       | [u],_=>exact ⟨u,rfl⟩
     have hu1:=hR.one hya u (List.mem_singleton.2 Y);(refine q0l<|tn<|q0b<|q0p<|q0b<|q0a<|Ls (q0q Y Y (by omega))<|Ls (q1p Y hcell (j:=0) Y Y)<|Ls (q0m (v:=u) Y)<|q0c<|tn<|q0a<|Ls (q0d (v:=.func _ _ _) Y)<|Ls (q0d (v:=u) Y) ?_);refine q4q (vl:=[u]) Y (hf i a ha w3 [u] _ k3 hya hlen hB3 h3) Y ?_;rintro e w5 ⟨rfl,h5,k5⟩;refine ⟨_,rfl,?_⟩;(refine q0c<|bn<|tn<|q0a<|Ls (q1c Y Y (by omega))<|m_I Y<|q0c<|tn ?_);refine ⟨l.length - (i+1),by omega,i+1,rfl,by omega,rfl,rfl,rfl,rfl,?_,k3.trans k5⟩;rw [q4x bs l i a ha,← List.append_assoc];exact h5
   · obtain rfl:i=l.length:=(by omega);(refine q1d<|te<|te<|bx ?_);refine q1h Y Y ?_;refine ⟨rfl,?_,k3⟩;rw [List.take_length,List.append_assoc] at h3;exact h3
theorem gslB {α:Type} {R:Rep α} (hR:R.Ok) (id:FuncId) [TFun Tryz.prog id] (first cap:Array Value) (B p:Nat) (N:Nat→Prop) (bs:α→List Nat) (l:List α) (v:Value) (l0:List Nat) (w:World) (hN:Far N B p)
   (hf:q8y id first cap B p N R (fun x=>x.headD .nilIface) bs l w) (hv:slR 1 R N w [v] l) (hl:l.length < 4294967296) (hb:l0.length+4+(l.flatMap bs).length≤99999000) (hB:B≤w.heap.size) (he:EncAt B p w l0) :
   Calls Tryz.prog 57 #[.pointer (some ⟨p,0,none⟩),v,.func (.func id) first cap] w (EncR B p l0 (Ce.byN 4 l.length++l.flatMap bs) w):=by
 refine q0j Tryz.func57 Y Tryz.ntmps57 Y ?_;obtain ⟨A,c,e,hc,hcm⟩:=q2m hv;obtain rfl:v=.slice A l.length c:=by simpa using e
 (refine q0b<|q0a<|m_P Y<|m_S Y<|Ls (q0i Y) ?_);refine L_fn (gint B p l.length l0 w hl (by omega) hB he) Y ?_;rintro e w2 ⟨rfl,h2,k2⟩;refine ⟨_,rfl,?_⟩;(refine q0c<|tn<|q0b<|q0a<|m_S Y<|Ls (q0i Y)<|m_I Y<|q0c<|tn<|q0p ?_);refine q1e (fun q f w'=>∃ i,q=l.length - i∧i≤l.length∧f 2=.func (.func id) first cap∧f 12=.slice A l.length c∧f 13=.int .i64 (l.length:Nat)∧f 14=.int .i64 (i:Nat)∧EncAt B p w' (l0++Ce.byN 4 l.length++(l.take i).flatMap bs)∧EncK B p w w') l.length ?_ ?_
 · exact ⟨0,rfl,by omega,rfl,rfl,rfl,rfl,by simpa using h2,k2⟩
 · rintro q f w3 ⟨i,rfl,hi,f2,f12,f13,f14,h3,k3⟩;rw [fold f2,fold f12,fold f13,fold f14];(refine q0b<|q0a<|Ls (q2h Y Y)<|q0c<|tn<|q0b ?_);refine q0x Y (fun h=>?_) (fun h=>?_)
   · have hi':i < l.length:=(by omega);obtain ⟨a,ha⟩:∃ a,l[i]?=some a:=⟨_,List.getElem?_eq_getElem hi'⟩;have hv3:=(q1x (by decide) hR).keep hv k3.k hN;obtain ⟨b,o,c',y,e,_,_,hy,hcell,hya⟩:=q3q hv3 ha;cases e
     have hfl:=q6o bs l i a ha;have hlen:(l0++Ce.byN 4 l.length++(l.take i).flatMap bs).length+(bs a).length≤99999000:=by
       rw [List.length_append,List.length_append,Ce.byN_len];omega
     have hB3:=Nat.le_trans hB k3.k.size;obtain ⟨u,rfl⟩:∃ u,y=[u]:=by
       match y,hy with
       | [u],_=>exact ⟨u,rfl⟩
     have hu1:=hR.one hya u (List.mem_singleton.2 Y);(refine q0l<|tn<|q0b<|q0p<|q0b<|q0a<|Ls (q0q Y Y (by omega))<|Ls (q1p Y hcell (j:=0) Y Y)<|Ls (q0m (v:=u) Y)<|q0c<|tn<|q0a<|Ls (q0d (v:=.func _ _ _) Y)<|Ls (q0d (v:=u) Y) ?_);refine q4q (vl:=[u]) Y (hf i a ha w3 [u] _ k3 hya hlen hB3 h3) Y ?_;rintro e w5 ⟨rfl,h5,k5⟩;refine ⟨_,rfl,?_⟩;(refine q0c<|bn<|tn<|q0a<|Ls (q1c Y Y (by omega))<|m_I Y<|q0c<|tn ?_);refine ⟨l.length - (i+1),by omega,i+1,rfl,by omega,rfl,rfl,rfl,rfl,?_,k3.trans k5⟩;rw [q4x bs l i a ha,← List.append_assoc];exact h5
   · obtain rfl:i=l.length:=(by omega);(refine q1d<|te<|te<|bx ?_);refine q1h Y Y ?_;refine ⟨rfl,?_,k3⟩;rw [List.take_length,List.append_assoc] at h3;exact h3
theorem gslI {α:Type} {R:Rep α} (hR:R.Ok) (id:FuncId) [TFun Tryz.prog id] (first cap:Array Value) (B p:Nat) (N:Nat→Prop) (bs:α→List Nat) (l:List α) (v:Value) (l0:List Nat) (w:World) (hN:Far N B p)
   (hf:q8y id first cap B p N R (fun x=>x.headD .nilIface) bs l w) (hv:slR 1 R N w [v] l) (hl:l.length < 4294967296) (hb:l0.length+4+(l.flatMap bs).length≤99999000) (hB:B≤w.heap.size) (he:EncAt B p w l0) :
   Calls Tryz.prog 61 #[.pointer (some ⟨p,0,none⟩),v,.func (.func id) first cap] w (EncR B p l0 (Ce.byN 4 l.length++l.flatMap bs) w):=by
 refine q0j Tryz.func61 Y Tryz.ntmps61 Y ?_;obtain ⟨A,c,e,hc,hcm⟩:=q2m hv;obtain rfl:v=.slice A l.length c:=by simpa using e
 (refine q0b<|q0a<|m_P Y<|m_S Y<|Ls (q0i Y) ?_);refine L_fn (gint B p l.length l0 w hl (by omega) hB he) Y ?_;rintro e w2 ⟨rfl,h2,k2⟩;refine ⟨_,rfl,?_⟩;(refine q0c<|tn<|q0b<|q0a<|m_S Y<|Ls (q0i Y)<|m_I Y<|q0c<|tn<|q0p ?_);refine q1e (fun q f w'=>∃ i,q=l.length - i∧i≤l.length∧f 2=.func (.func id) first cap∧f 12=.slice A l.length c∧f 13=.int .i64 (l.length:Nat)∧f 14=.int .i64 (i:Nat)∧EncAt B p w' (l0++Ce.byN 4 l.length++(l.take i).flatMap bs)∧EncK B p w w') l.length ?_ ?_
 · exact ⟨0,rfl,by omega,rfl,rfl,rfl,rfl,by simpa using h2,k2⟩
 · rintro q f w3 ⟨i,rfl,hi,f2,f12,f13,f14,h3,k3⟩;rw [fold f2,fold f12,fold f13,fold f14];(refine q0b<|q0a<|Ls (q2h Y Y)<|q0c<|tn<|q0b ?_);refine q0x Y (fun h=>?_) (fun h=>?_)
   · have hi':i < l.length:=(by omega);obtain ⟨a,ha⟩:∃ a,l[i]?=some a:=⟨_,List.getElem?_eq_getElem hi'⟩;have hv3:=(q1x (by decide) hR).keep hv k3.k hN;obtain ⟨b,o,c',y,e,_,_,hy,hcell,hya⟩:=q3q hv3 ha;cases e
     have hfl:=q6o bs l i a ha;have hlen:(l0++Ce.byN 4 l.length++(l.take i).flatMap bs).length+(bs a).length≤99999000:=by
       rw [List.length_append,List.length_append,Ce.byN_len];omega
     have hB3:=Nat.le_trans hB k3.k.size;obtain ⟨u,rfl⟩:∃ u,y=[u]:=by
       match y,hy with
       | [u],_=>exact ⟨u,rfl⟩
     have hu1:=hR.one hya u (List.mem_singleton.2 Y);(refine q0l<|tn<|q0b<|q0p<|q0b<|q0a<|Ls (q0q Y Y (by omega))<|Ls (q1p Y hcell (j:=0) Y Y)<|Ls (q0m (v:=u) Y)<|q0c<|tn<|q0a<|Ls (q0d (v:=.func _ _ _) Y)<|Ls (q0d (v:=u) Y) ?_);refine q4q (vl:=[u]) Y (hf i a ha w3 [u] _ k3 hya hlen hB3 h3) Y ?_;rintro e w5 ⟨rfl,h5,k5⟩;refine ⟨_,rfl,?_⟩;(refine q0c<|bn<|tn<|q0a<|Ls (q1c Y Y (by omega))<|m_I Y<|q0c<|tn ?_);refine ⟨l.length - (i+1),by omega,i+1,rfl,by omega,rfl,rfl,rfl,rfl,?_,k3.trans k5⟩;rw [q4x bs l i a ha,← List.append_assoc];exact h5
   · obtain rfl:i=l.length:=(by omega);(refine q1d<|te<|te<|bx ?_);refine q1h Y Y ?_;refine ⟨rfl,?_,k3⟩;rw [List.take_length,List.append_assoc] at h3;exact h3
theorem gslC {α:Type} {R:Rep α} (hR:R.Ok) (id:FuncId) [TFun Tryz.prog id] (first cap:Array Value) (B p:Nat) (N:Nat→Prop) (bs:α→List Nat) (l:List α) (v:Value) (l0:List Nat) (w:World) (hN:Far N B p)
   (hf:q8y id first cap B p N R (fun x=>x.headD .nilIface) bs l w) (hv:slR 1 R N w [v] l) (hl:l.length < 4294967296) (hb:l0.length+4+(l.flatMap bs).length≤99999000) (hB:B≤w.heap.size) (he:EncAt B p w l0) :
   Calls Tryz.prog 69 #[.pointer (some ⟨p,0,none⟩),v,.func (.func id) first cap] w (EncR B p l0 (Ce.byN 4 l.length++l.flatMap bs) w):=by
 refine q0j Tryz.func69 Y Tryz.ntmps69 Y ?_;obtain ⟨A,c,e,hc,hcm⟩:=q2m hv;obtain rfl:v=.slice A l.length c:=by simpa using e
 (refine q0b<|q0a<|m_P Y<|m_S Y<|Ls (q0i Y) ?_);refine L_fn (gint B p l.length l0 w hl (by omega) hB he) Y ?_;rintro e w2 ⟨rfl,h2,k2⟩;refine ⟨_,rfl,?_⟩;(refine q0c<|tn<|q0b<|q0a<|m_S Y<|Ls (q0i Y)<|m_I Y<|q0c<|tn<|q0p ?_);refine q1e (fun q f w'=>∃ i,q=l.length - i∧i≤l.length∧f 2=.func (.func id) first cap∧f 12=.slice A l.length c∧f 13=.int .i64 (l.length:Nat)∧f 14=.int .i64 (i:Nat)∧EncAt B p w' (l0++Ce.byN 4 l.length++(l.take i).flatMap bs)∧EncK B p w w') l.length ?_ ?_
 · exact ⟨0,rfl,by omega,rfl,rfl,rfl,rfl,by simpa using h2,k2⟩
 · rintro q f w3 ⟨i,rfl,hi,f2,f12,f13,f14,h3,k3⟩;rw [fold f2,fold f12,fold f13,fold f14];(refine q0b<|q0a<|Ls (q2h Y Y)<|q0c<|tn<|q0b ?_);refine q0x Y (fun h=>?_) (fun h=>?_)
   · have hi':i < l.length:=(by omega);obtain ⟨a,ha⟩:∃ a,l[i]?=some a:=⟨_,List.getElem?_eq_getElem hi'⟩;have hv3:=(q1x (by decide) hR).keep hv k3.k hN;obtain ⟨b,o,c',y,e,_,_,hy,hcell,hya⟩:=q3q hv3 ha;cases e
     have hfl:=q6o bs l i a ha;have hlen:(l0++Ce.byN 4 l.length++(l.take i).flatMap bs).length+(bs a).length≤99999000:=by
       rw [List.length_append,List.length_append,Ce.byN_len];omega
     have hB3:=Nat.le_trans hB k3.k.size;obtain ⟨u,rfl⟩:∃ u,y=[u]:=by
       match y,hy with
       | [u],_=>exact ⟨u,rfl⟩
     have hu1:=hR.one hya u (List.mem_singleton.2 Y);(refine q0l<|tn<|q0b<|q0p<|q0b<|q0a<|Ls (q0q Y Y (by omega))<|Ls (q1p Y hcell (j:=0) Y Y)<|Ls (q0m (v:=u) Y)<|q0c<|tn<|q0a<|Ls (q0d (v:=.func _ _ _) Y)<|Ls (q0d (v:=u) Y) ?_);refine q4q (vl:=[u]) Y (hf i a ha w3 [u] _ k3 hya hlen hB3 h3) Y ?_;rintro e w5 ⟨rfl,h5,k5⟩;refine ⟨_,rfl,?_⟩;(refine q0c<|bn<|tn<|q0a<|Ls (q1c Y Y (by omega))<|m_I Y<|q0c<|tn ?_);refine ⟨l.length - (i+1),by omega,i+1,rfl,by omega,rfl,rfl,rfl,rfl,?_,k3.trans k5⟩;rw [q4x bs l i a ha,← List.append_assoc];exact h5
   · obtain rfl:i=l.length:=(by omega);(refine q1d<|te<|te<|bx ?_);refine q1h Y Y ?_;refine ⟨rfl,?_,k3⟩;rw [List.take_length,List.append_assoc] at h3;exact h3
theorem gslW {α:Type} {R:Rep α} (hR:R.Ok) (id:FuncId) [TFun Tryz.prog id] (first cap:Array Value) (B p:Nat) (N:Nat→Prop) (bs:α→List Nat) (l:List α) (v:Value) (l0:List Nat) (w:World) (hN:Far N B p)
   (hf:q8y id first cap B p N R (fun x=>x.headD .nilIface) bs l w) (hv:slR 1 R N w [v] l) (hl:l.length < 4294967296) (hb:l0.length+4+(l.flatMap bs).length≤99999000) (hB:B≤w.heap.size) (he:EncAt B p w l0) :
   Calls Tryz.prog 146 #[.pointer (some ⟨p,0,none⟩),v,.func (.func id) first cap] w (EncR B p l0 (Ce.byN 4 l.length++l.flatMap bs) w):=by
 refine q0j Tryz.func146 Y Tryz.ntmps146 Y ?_;obtain ⟨A,c,e,hc,hcm⟩:=q2m hv;obtain rfl:v=.slice A l.length c:=by simpa using e
 (refine q0b<|q0a<|m_P Y<|m_S Y<|Ls (q0i Y) ?_);refine L_fn (gint B p l.length l0 w hl (by omega) hB he) Y ?_;rintro e w2 ⟨rfl,h2,k2⟩;refine ⟨_,rfl,?_⟩;(refine q0c<|tn<|q0b<|q0a<|m_S Y<|Ls (q0i Y)<|m_I Y<|q0c<|tn<|q0p ?_);refine q1e (fun q f w'=>∃ i,q=l.length - i∧i≤l.length∧f 2=.func (.func id) first cap∧f 12=.slice A l.length c∧f 13=.int .i64 (l.length:Nat)∧f 14=.int .i64 (i:Nat)∧EncAt B p w' (l0++Ce.byN 4 l.length++(l.take i).flatMap bs)∧EncK B p w w') l.length ?_ ?_
 · exact ⟨0,rfl,by omega,rfl,rfl,rfl,rfl,by simpa using h2,k2⟩
 · rintro q f w3 ⟨i,rfl,hi,f2,f12,f13,f14,h3,k3⟩;rw [fold f2,fold f12,fold f13,fold f14];(refine q0b<|q0a<|Ls (q2h Y Y)<|q0c<|tn<|q0b ?_);refine q0x Y (fun h=>?_) (fun h=>?_)
   · have hi':i < l.length:=(by omega);obtain ⟨a,ha⟩:∃ a,l[i]?=some a:=⟨_,List.getElem?_eq_getElem hi'⟩;have hv3:=(q1x (by decide) hR).keep hv k3.k hN;obtain ⟨b,o,c',y,e,_,_,hy,hcell,hya⟩:=q3q hv3 ha;cases e
     have hfl:=q6o bs l i a ha;have hlen:(l0++Ce.byN 4 l.length++(l.take i).flatMap bs).length+(bs a).length≤99999000:=by
       rw [List.length_append,List.length_append,Ce.byN_len];omega
     have hB3:=Nat.le_trans hB k3.k.size;obtain ⟨u,rfl⟩:∃ u,y=[u]:=by
       match y,hy with
       | [u],_=>exact ⟨u,rfl⟩
     have hu1:=hR.one hya u (List.mem_singleton.2 Y);(refine q0l<|tn<|q0b<|q0p<|q0b<|q0a<|Ls (q0q Y Y (by omega))<|Ls (q1p Y hcell (j:=0) Y Y)<|Ls (q0m (v:=u) Y)<|q0c<|tn<|q0a<|Ls (q0d (v:=.func _ _ _) Y)<|Ls (q0d (v:=u) Y) ?_);refine q4q (vl:=[u]) Y (hf i a ha w3 [u] _ k3 hya hlen hB3 h3) Y ?_;rintro e w5 ⟨rfl,h5,k5⟩;refine ⟨_,rfl,?_⟩;(refine q0c<|bn<|tn<|q0a<|Ls (q1c Y Y (by omega))<|m_I Y<|q0c<|tn ?_);refine ⟨l.length - (i+1),by omega,i+1,rfl,by omega,rfl,rfl,rfl,rfl,?_,k3.trans k5⟩;rw [q4x bs l i a ha,← List.append_assoc];exact h5
   · obtain rfl:i=l.length:=(by omega);(refine q1d<|te<|te<|bx ?_);refine q1h Y Y ?_;refine ⟨rfl,?_,k3⟩;rw [List.take_length,List.append_assoc] at h3;exact h3
theorem gslE {α:Type} {R:Rep α} (hR:R.Ok) (id:FuncId) [TFun Tryz.prog id] (first cap:Array Value) (B p:Nat) (N:Nat→Prop) (bs:α→List Nat) (l:List α) (v:Value) (l0:List Nat) (w:World) (hN:Far N B p)
   (hf:q8y id first cap B p N R (fun x=>.agg x.toArray) bs l w) (hv:slR 2 R N w [v] l) (hl:l.length < 4294967296) (hb:l0.length+4+(l.flatMap bs).length≤99999000) (hB:B≤w.heap.size) (he:EncAt B p w l0) :
   Calls Tryz.prog 68 #[.pointer (some ⟨p,0,none⟩),v,.func (.func id) first cap] w (EncR B p l0 (Ce.byN 4 l.length++l.flatMap bs) w):=by
 refine q0j Tryz.func68 Y Tryz.ntmps68 Y ?_;obtain ⟨A,c,e,hc,hcm⟩:=q2m hv;obtain rfl:v=.slice A l.length c:=by simpa using e
 (refine q0b<|q0a<|m_P Y<|m_S Y<|Ls (q0i Y) ?_);refine L_fn (gint B p l.length l0 w hl (by omega) hB he) Y ?_;rintro e w2 ⟨rfl,h2,k2⟩;refine ⟨_,rfl,?_⟩;(refine q0c<|tn<|q0b<|q0a<|m_S Y<|Ls (q0i Y)<|m_I Y<|q0c<|tn<|q0p ?_);refine q1e (fun q f w'=>∃ i,q=l.length - i∧i≤l.length∧f 2=.func (.func id) first cap∧f 12=.slice A l.length c∧f 13=.int .i64 (l.length:Nat)∧f 14=.int .i64 (i:Nat)∧EncAt B p w' (l0++Ce.byN 4 l.length++(l.take i).flatMap bs)∧EncK B p w w') l.length ?_ ?_
 · exact ⟨0,rfl,by omega,rfl,rfl,rfl,rfl,by simpa using h2,k2⟩
 · rintro q f w3 ⟨i,rfl,hi,f2,f12,f13,f14,h3,k3⟩;rw [fold f2,fold f12,fold f13,fold f14];(refine q0b<|q0a<|Ls (q2h Y Y)<|q0c<|tn<|q0b ?_);refine q0x Y (fun h=>?_) (fun h=>?_)
   · have hi':i < l.length:=(by omega);obtain ⟨a,ha⟩:∃ a,l[i]?=some a:=⟨_,List.getElem?_eq_getElem hi'⟩;have hv3:=(q1x (by decide) hR).keep hv k3.k hN;obtain ⟨b,o,c',y,e,_,_,hy,hcell,hya⟩:=q3q hv3 ha;cases e
     have hfl:=q6o bs l i a ha;have hlen:(l0++Ce.byN 4 l.length++(l.take i).flatMap bs).length+(bs a).length≤99999000:=by
       rw [List.length_append,List.length_append,Ce.byN_len];omega
     have hB3:=Nat.le_trans hB k3.k.size;(refine q0l<|tn<|q0b<|q0p<|q0b<|q0a<|Ls (q0q Y Y (by omega)) ?_);refine Ls (q2x (size:=2) (cs:=y) Y (fun j u hu=>hcell j u hu) hy) ?_;refine q0w ?_;intro g5 w4 B4 hg4 E4 hs4;refine q0t Y Y hy (hR.one hya) B4 Y ?_;intro w5 B5 hg5 hs5;have E5:Ext w3 w5:=E4.then hg5 (fun g h=>by cases h;omega);have k4:=k3.trans (EncK.of_ext (B:=B) (p:=p) E5);(refine q0c<|tn<|q0a<|Ls (q0d (v:=.func _ _ _) Y)<|Ls (q2i Y B5 hy) ?_);refine q4q (vl:=[.agg y.toArray]) Y (hf i a ha w5 y _ k4 (hR.ext hya E5) hlen (Nat.le_trans hB3 E5.size) (h3.ext E5)) Y ?_;rintro e w5 ⟨rfl,h5,k5⟩;refine ⟨_,rfl,?_⟩;(refine q0c<|bn<|tn<|q0a<|Ls (q1c Y Y (by omega))<|m_I Y<|q0c<|tn ?_);refine ⟨l.length - (i+1),by omega,i+1,rfl,by omega,rfl,rfl,rfl,rfl,?_,k4.trans k5⟩;rw [q4x bs l i a ha,← List.append_assoc];exact h5
   · obtain rfl:i=l.length:=(by omega);(refine q1d<|te<|te<|bx ?_);refine q1h Y Y ?_;refine ⟨rfl,?_,k3⟩;rw [List.take_length,List.append_assoc] at h3;exact h3
theorem gslL {α:Type} {R:Rep α} (hR:R.Ok) (id:FuncId) [TFun Tryz.prog id] (first cap:Array Value) (B p:Nat) (N:Nat→Prop) (bs:α→List Nat) (l:List α) (v:Value) (l0:List Nat) (w:World) (hN:Far N B p)
   (hf:q8y id first cap B p N R (fun x=>.agg x.toArray) bs l w) (hv:slR 6 R N w [v] l) (hl:l.length < 4294967296) (hb:l0.length+4+(l.flatMap bs).length≤99999000) (hB:B≤w.heap.size) (he:EncAt B p w l0) :
   Calls Tryz.prog 65 #[.pointer (some ⟨p,0,none⟩),v,.func (.func id) first cap] w (EncR B p l0 (Ce.byN 4 l.length++l.flatMap bs) w):=by
 refine q0j Tryz.func65 Y Tryz.ntmps65 Y ?_;obtain ⟨A,c,e,hc,hcm⟩:=q2m hv;obtain rfl:v=.slice A l.length c:=by simpa using e
 (refine q0b<|q0a<|m_P Y<|m_S Y<|Ls (q0i Y) ?_);refine L_fn (gint B p l.length l0 w hl (by omega) hB he) Y ?_;rintro e w2 ⟨rfl,h2,k2⟩;refine ⟨_,rfl,?_⟩;(refine q0c<|tn<|q0b<|q0a<|m_S Y<|Ls (q0i Y)<|m_I Y<|q0c<|tn<|q0p ?_);refine q1e (fun q f w'=>∃ i,q=l.length - i∧i≤l.length∧f 2=.func (.func id) first cap∧f 12=.slice A l.length c∧f 13=.int .i64 (l.length:Nat)∧f 14=.int .i64 (i:Nat)∧EncAt B p w' (l0++Ce.byN 4 l.length++(l.take i).flatMap bs)∧EncK B p w w') l.length ?_ ?_
 · exact ⟨0,rfl,by omega,rfl,rfl,rfl,rfl,by simpa using h2,k2⟩
 · rintro q f w3 ⟨i,rfl,hi,f2,f12,f13,f14,h3,k3⟩;rw [fold f2,fold f12,fold f13,fold f14];(refine q0b<|q0a<|Ls (q2h Y Y)<|q0c<|tn<|q0b ?_);refine q0x Y (fun h=>?_) (fun h=>?_)
   · have hi':i < l.length:=(by omega);obtain ⟨a,ha⟩:∃ a,l[i]?=some a:=⟨_,List.getElem?_eq_getElem hi'⟩;have hv3:=(q1x (by decide) hR).keep hv k3.k hN;obtain ⟨b,o,c',y,e,_,_,hy,hcell,hya⟩:=q3q hv3 ha;cases e
     have hfl:=q6o bs l i a ha;have hlen:(l0++Ce.byN 4 l.length++(l.take i).flatMap bs).length+(bs a).length≤99999000:=by
       rw [List.length_append,List.length_append,Ce.byN_len];omega
     have hB3:=Nat.le_trans hB k3.k.size;(refine q0l<|tn<|q0b<|q0p<|q0b<|q0a<|Ls (q0q Y Y (by omega)) ?_);refine Ls (q2x (size:=6) (cs:=y) Y (fun j u hu=>hcell j u hu) hy) ?_;refine q0w ?_;intro g5 w4 B4 hg4 E4 hs4;refine q0t Y Y hy (hR.one hya) B4 Y ?_;intro w5 B5 hg5 hs5;have E5:Ext w3 w5:=E4.then hg5 (fun g h=>by cases h;omega);have k4:=k3.trans (EncK.of_ext (B:=B) (p:=p) E5);(refine q0c<|tn<|q0a<|Ls (q0d (v:=.func _ _ _) Y)<|Ls (q2i Y B5 hy) ?_);refine q4q (vl:=[.agg y.toArray]) Y (hf i a ha w5 y _ k4 (hR.ext hya E5) hlen (Nat.le_trans hB3 E5.size) (h3.ext E5)) Y ?_;rintro e w5 ⟨rfl,h5,k5⟩;refine ⟨_,rfl,?_⟩;(refine q0c<|bn<|tn<|q0a<|Ls (q1c Y Y (by omega))<|m_I Y<|q0c<|tn ?_);refine ⟨l.length - (i+1),by omega,i+1,rfl,by omega,rfl,rfl,rfl,rfl,?_,k4.trans k5⟩;rw [q4x bs l i a ha,← List.append_assoc];exact h5
   · obtain rfl:i=l.length:=(by omega);(refine q1d<|te<|te<|bx ?_);refine q1h Y Y ?_;refine ⟨rfl,?_,k3⟩;rw [List.take_length,List.append_assoc] at h3;exact h3
theorem gslD {α:Type} {R:Rep α} (hR:R.Ok) (id:FuncId) [TFun Tryz.prog id] (first cap:Array Value) (B p:Nat) (N:Nat→Prop) (bs:α→List Nat) (l:List α) (v:Value) (l0:List Nat) (w:World) (hN:Far N B p)
   (hf:q8y id first cap B p N R (fun x=>.agg x.toArray) bs l w) (hv:slR 32 R N w [v] l) (hl:l.length < 4294967296) (hb:l0.length+4+(l.flatMap bs).length≤99999000) (hB:B≤w.heap.size) (he:EncAt B p w l0) :
   Calls Tryz.prog 71 #[.pointer (some ⟨p,0,none⟩),v,.func (.func id) first cap] w (EncR B p l0 (Ce.byN 4 l.length++l.flatMap bs) w):=by
 refine q0j Tryz.func71 Y Tryz.ntmps71 Y ?_;obtain ⟨A,c,e,hc,hcm⟩:=q2m hv;obtain rfl:v=.slice A l.length c:=by simpa using e
 (refine q0b<|q0a<|m_P Y<|m_S Y<|Ls (q0i Y) ?_);refine L_fn (gint B p l.length l0 w hl (by omega) hB he) Y ?_;rintro e w2 ⟨rfl,h2,k2⟩;refine ⟨_,rfl,?_⟩;(refine q0c<|tn<|q0b<|q0a<|m_S Y<|Ls (q0i Y)<|m_I Y<|q0c<|tn<|q0p ?_);refine q1e (fun q f w'=>∃ i,q=l.length - i∧i≤l.length∧f 2=.func (.func id) first cap∧f 12=.slice A l.length c∧f 13=.int .i64 (l.length:Nat)∧f 14=.int .i64 (i:Nat)∧EncAt B p w' (l0++Ce.byN 4 l.length++(l.take i).flatMap bs)∧EncK B p w w') l.length ?_ ?_
 · exact ⟨0,rfl,by omega,rfl,rfl,rfl,rfl,by simpa using h2,k2⟩
 · rintro q f w3 ⟨i,rfl,hi,f2,f12,f13,f14,h3,k3⟩;rw [fold f2,fold f12,fold f13,fold f14];(refine q0b<|q0a<|Ls (q2h Y Y)<|q0c<|tn<|q0b ?_);refine q0x Y (fun h=>?_) (fun h=>?_)
   · have hi':i < l.length:=(by omega);obtain ⟨a,ha⟩:∃ a,l[i]?=some a:=⟨_,List.getElem?_eq_getElem hi'⟩;have hv3:=(q1x (by decide) hR).keep hv k3.k hN;obtain ⟨b,o,c',y,e,_,_,hy,hcell,hya⟩:=q3q hv3 ha;cases e
     have hfl:=q6o bs l i a ha;have hlen:(l0++Ce.byN 4 l.length++(l.take i).flatMap bs).length+(bs a).length≤99999000:=by
       rw [List.length_append,List.length_append,Ce.byN_len];omega
     have hB3:=Nat.le_trans hB k3.k.size;(refine q0l<|tn<|q0b<|q0p<|q0b<|q0a<|Ls (q0q Y Y (by omega)) ?_);refine Ls (q2x (size:=32) (cs:=y) Y (fun j u hu=>hcell j u hu) hy) ?_;refine q0w ?_;intro g5 w4 B4 hg4 E4 hs4;refine q0t Y Y hy (hR.one hya) B4 Y ?_;intro w5 B5 hg5 hs5;have E5:Ext w3 w5:=E4.then hg5 (fun g h=>by cases h;omega);have k4:=k3.trans (EncK.of_ext (B:=B) (p:=p) E5);(refine q0c<|tn<|q0a<|Ls (q0d (v:=.func _ _ _) Y)<|Ls (q2i Y B5 hy) ?_);refine q4q (vl:=[.agg y.toArray]) Y (hf i a ha w5 y _ k4 (hR.ext hya E5) hlen (Nat.le_trans hB3 E5.size) (h3.ext E5)) Y ?_;rintro e w5 ⟨rfl,h5,k5⟩;refine ⟨_,rfl,?_⟩;(refine q0c<|bn<|tn<|q0a<|Ls (q1c Y Y (by omega))<|m_I Y<|q0c<|tn ?_);refine ⟨l.length - (i+1),by omega,i+1,rfl,by omega,rfl,rfl,rfl,rfl,?_,k4.trans k5⟩;rw [q4x bs l i a ha,← List.append_assoc];exact h5
   · obtain rfl:i=l.length:=(by omega);(refine q1d<|te<|te<|bx ?_);refine q1h Y Y ?_;refine ⟨rfl,?_,k3⟩;rw [List.take_length,List.append_assoc] at h3;exact h3
abbrev ptr (p:Nat):Value:=.pointer (some ⟨p,0,none⟩)
def E64 (e:Nat × Nat):Prop:=e.1 < 18446744073709551616∧e.2 < 18446744073709551616
theorem elemE {B p:Nat} {N:Nat→Prop} {l:List (Nat × Nat)} {w0:World} (h:∀ e∈l,E64 e):q8y 67 #[ptr p] #[] B p N exR (fun x=>.agg x.toArray) Ce.extC.w l w0:=by
 intro i a ha w x l0 k hx hlen hB he;obtain rfl:x=exC a.1 a.2:=hx;have h1:=h a (List.mem_of_getElem? ha);exact gext B p a.1 a.2 l0 w h1.1 h1.2 (by omega) hB he
theorem elemW {B p:Nat} {N:Nat→Prop} {l:List Nat} {w0:World} (h:∀ e∈l,e < 18446744073709551616):q8y 145 #[ptr p] #[] B p N (numR .u64) (fun x=>x.headD .nilIface) Ce.wordC.w l w0:=by
 intro i a ha w x l0 k hx hlen hB he;obtain rfl:x=[.int .u64 (a:Nat)]:=hx;exact gword B p a l0 w (h a (List.mem_of_getElem? ha)) (by omega) hB he
theorem ground (B p:Nat) (N:Nat→Prop) (l:List (Nat × Nat)) (v:Value) (l0:List Nat) (w:World) (hN:Far N B p) (hv:slR 2 exR N w [v] l) (hok:∀ e∈l,E64 e) (hl:l.length < 4294967296) (hb:l0.length+(Ce.roundC.w l).length≤99999000) (hB:B≤w.heap.size) (he:EncAt B p w l0) :
   Calls Tryz.prog 64 #[ptr p,v] w (EncR B p l0 (Ce.roundC.w l) w):=by
 refine q0j Tryz.func64 Y Tryz.ntmps64 Y ?_;have hv1:=q1s.one hv v (List.mem_singleton.2 Y);have hb':l0.length+4+(l.flatMap Ce.extC.w).length≤99999000:=by
   have:(Ce.roundC.w l).length=4+(l.flatMap Ce.extC.w).length:=by
     show (Ce.byN 4 l.length++_).length=_;rw [List.length_append,Ce.byN_len];rfl
   omega
 (refine q0a<|m_P Y<|Ls (q0d (v:=v) Y)<|m_P Y ?_);refine Ls (q1i (vf:=[ptr p]) (vc:=[]) Y Y) ?_;skip;refine L_fn (gslE q6w 67 #[ptr p] #[] B p N Ce.extC.w l v l0 w hN (elemE hok) hv hl hb' hB he) Y ?_;rintro e w2 ⟨rfl,h2,k2⟩;refine ⟨_,rfl,?_⟩;(refine q0c ?_);refine q1h Y Y ?_;exact ⟨rfl,h2,k2⟩
theorem gcolumnE (B p:Nat) (N:Nat→Prop) (l:List Nat) (v:Value) (l0:List Nat) (w:World) (hN:Far N B p) (hv:slR 1 (numR .u64) N w [v] l) (hok:∀ e∈l,e < 18446744073709551616) (hl:l.length < 4294967296) (hb:l0.length+((Ce.lst Ce.wordC).w l).length≤99999000) (hB:B≤w.heap.size) (he:EncAt B p w l0) :
   Calls Tryz.prog 70 #[ptr p,v] w (EncR B p l0 ((Ce.lst Ce.wordC).w l) w):=by
 refine q0j Tryz.func70 Y Tryz.ntmps70 Y ?_;have hv1:=(q1x (by decide) (q3n _)).one hv v (List.mem_singleton.2 Y);have hb':l0.length+4+(l.flatMap Ce.wordC.w).length≤99999000:=by
   have:((Ce.lst Ce.wordC).w l).length=4+(l.flatMap Ce.wordC.w).length:=by
     show (Ce.byN 4 l.length++_).length=_;rw [List.length_append,Ce.byN_len];rfl
   omega
 (refine q0a<|m_P Y<|Ls (q0d (v:=v) Y)<|m_P Y ?_);refine Ls (q1i (vf:=[ptr p]) (vc:=[]) Y Y) ?_;skip;refine L_fn (gslW (q3n _) 145 #[ptr p] #[] B p N Ce.wordC.w l v l0 w hN (elemW hok) hv hl hb' hB he) Y ?_;rintro e w2 ⟨rfl,h2,k2⟩;refine ⟨_,rfl,?_⟩;(refine q0c ?_);refine q1h Y Y ?_;exact ⟨rfl,h2,k2⟩
def Rd64 (r:List (Nat × Nat)):Prop:=r.length < 4294967296∧∀ e∈r,E64 e
def Lp64 (p:Ce.LP):Prop:=p.rounds.length < 4294967296∧(∀ r∈p.rounds,Rd64 r)∧E64 p.left∧E64 p.right∧Rd64 p.line
theorem q3p {α:Type} {size:Nat} {R:Rep α} {N:Nat→Prop} {w:World} {x:List Value} {l:List α} (h:slR size R N w x l):∃ v,x=[v]:=by
 obtain ⟨v,h,_⟩:=h;exact ⟨v,h⟩
theorem elemR {B p:Nat} {N:Nat→Prop} {l:List (List (Nat × Nat))} {w0:World} (hN:Far N B p) (h:∀ r∈l,Rd64 r):q8y 64 #[ptr p] #[] B p N (slR 2 exR) (fun x=>x.headD .nilIface) Ce.roundC.w l w0:=by
 intro i a ha w x l0 k hx hlen hB he;obtain ⟨v,rfl⟩:=q3p hx;have h1:=h a (List.mem_of_getElem? ha);exact ground B p N a v l0 w hN hx h1.2 h1.1 hlen hB he
theorem elemC {B p:Nat} {N:Nat→Prop} {l:List (List Nat)} {w0:World} (hN:Far N B p) (h:∀ r∈l,r.length < 4294967296∧∀ e∈r,e < 18446744073709551616):q8y 70 #[ptr p] #[] B p N (slR 1 (numR .u64)) (fun x=>x.headD .nilIface) (Ce.lst Ce.wordC).w l w0:=by
 intro i a ha w x l0 k hx hlen hB he;obtain ⟨v,rfl⟩:=q3p hx;have h1:=h a (List.mem_of_getElem? ha);exact gcolumnE B p N a v l0 w hN hx h1.2 h1.1 hlen hB he
theorem z4u {α:Type} (c:Ce.Cod α) (l:List α):((Ce.lst c).w l).length=4+(l.flatMap c.w).length:=by
 show (Ce.byN 4 l.length++_).length=_;rw [List.length_append,Ce.byN_len];rfl
theorem ext_len (e:Nat × Nat):(Ce.extC.w e).length=16:=by
 show (Ce.byN 8 e.1++Ce.byN 8 e.2).length=16;rw [List.length_append,Ce.byN_len,Ce.byN_len]
theorem lp_w (p:Ce.LP):Ce.lpC.w p=(Ce.lst Ce.roundC).w p.rounds++(Ce.extC.w p.left++(Ce.extC.w p.right++Ce.roundC.w p.line)):=rfl
theorem glayer (B p:Nat) (N:Nat→Prop) (l:Ce.LP) (x:List Value) (l0:List Nat) (w:World) (hN:Far N B p) (hx:lpR N w x l) (hok:Lp64 l) (hb:l0.length+(Ce.lpC.w l).length≤99999000) (hB:B≤w.heap.size) (he:EncAt B p w l0) :
   Calls Tryz.prog 66 #[ptr p,.agg x.toArray] w (EncR B p l0 (Ce.lpC.w l) w):=by
 refine q0j Tryz.func66 Y Tryz.ntmps66 Y ?_;have hp:=he.lt;rw [lp_w] at hb ⊢;simp only [List.length_append,z4u,ext_len] at hb;have hline:(Ce.roundC.w l.line).length=4+(l.line.flatMap Ce.extC.w).length:=z4u _ _;obtain ⟨a,b,rfl,h1,h2⟩:=hx;have ha1:=q1z.one h1 a (List.mem_singleton.2 Y);have hb1:=q1s.one h2 b (List.mem_singleton.2 Y);obtain ⟨o1,o2,o3,o4,o5⟩:=hok;(refine q0b<|q0a ?_);refine q2s Y ?_;intro g2 w2 B2 hg2 E2 hs2;(refine q0c<|tn<|q0b<|q0a<|m_P Y<|Ls (q0g Y)<|Ls (X_ld Y B2 Y)<|m_P Y ?_);refine Ls (q1i (vf:=[ptr p]) (vc:=[]) Y Y) ?_;skip;refine L_fn (gslR q1s 64 #[ptr p] #[] B p N Ce.roundC.w l.rounds a l0 w2 hN (elemR hN o2) (q1z.ext h1 E2) o1 (by omega) (Nat.le_trans hB E2.size) (he.ext E2)) Y ?_;rintro e w3 ⟨rfl,e3,k3⟩;refine ⟨_,rfl,?_⟩;have B3:=k3.k.blk B2 (by omega) (.inr (by decide));have hs3:=Nat.le_trans (Nat.le_trans hB E2.size) k3.k.size;(refine q0c<|tn<|q0b<|q0a<|m_P Y<|Ls (q0g Y)<|Ls (q5b (l:=exC l.left.1 l.left.2) Y B3 Y Y) ?_);refine L_fn (gext B p l.left.1 l.left.2 _ w3 o3.1 o3.2 (by simp only [List.length_append,Ce.byN_len];omega) hs3 e3) Y ?_;rintro e w4 ⟨rfl,e4,k4⟩;refine ⟨_,rfl,?_⟩;have B4:=k4.k.blk B3 (by omega) (.inr (by decide));have hs4:=Nat.le_trans hs3 k4.k.size;(refine q0c<|tn<|q0b<|q0a<|m_P Y<|Ls (q0g Y)<|Ls (q5b (l:=exC l.right.1 l.right.2) Y B4 Y Y) ?_);refine L_fn (gext B p l.right.1 l.right.2 _ w4 o4.1 o4.2 (by simp only [List.length_append,Ce.byN_len];omega) hs4 e4) Y ?_;rintro e w5 ⟨rfl,e5,k5⟩;refine ⟨_,rfl,?_⟩;have B5:=k5.k.blk B4 (by omega) (.inr (by decide));have hs5:=Nat.le_trans hs4 k5.k.size;(refine q0c<|tn<|q0a<|m_P Y<|Ls (q0g Y)<|Ls (X_ld Y B5 Y)<|m_P Y ?_);refine Ls (q1i (vf:=[ptr p]) (vc:=[]) Y Y) ?_;skip;have hline5:=q1s.keep (q1s.keep (q1s.keep (q1s.ext h2 E2) k3.k hN) k4.k hN) k5.k hN;refine L_fn (gslE q6w 67 #[ptr p] #[] B p N Ce.extC.w l.line b _ w5 hN (elemE o5.2) hline5 o5.1 (by simp only [List.length_append,Ce.byN_len];omega) hs5 e5) Y ?_;rintro e w6 ⟨rfl,e6,k6⟩;refine ⟨_,rfl,?_⟩;(refine q0c ?_);refine q1h Y Y ?_;refine ⟨rfl,?_,(EncK.of_ext E2).trans (k3.trans (k4.trans (k5.trans k6)))⟩;simp only [List.append_assoc] at e6;rw [show (Ce.lst Ce.roundC).w l.rounds=Ce.byN 4 l.rounds.length++l.rounds.flatMap Ce.roundC.w from rfl,show Ce.extC.w l.left=Ce.byN 8 l.left.1++Ce.byN 8 l.left.2 from rfl,show Ce.extC.w l.right=Ce.byN 8 l.right.1++Ce.byN 8 l.right.2 from rfl,show Ce.roundC.w l.line=Ce.byN 4 l.line.length++l.line.flatMap Ce.extC.w from rfl];simp only [List.append_assoc];exact e6
theorem elemL {B p:Nat} {N:Nat→Prop} {l:List Ce.LP} {w0:World} (hN:Far N B p) (h:∀ r∈l,Lp64 r):q8y 66 #[ptr p] #[] B p N lpR (fun x=>.agg x.toArray) Ce.lpC.w l w0:=by
 intro i a ha w x l0 k hx hlen hB he;exact glayer B p N a x l0 w hN hx (h a (List.mem_of_getElem? ha)) hlen hB he
end Go.Proofs.YtlcnkadkbcoadaaGreatDoor
namespace Go.Proofs.K
open Go.RowKit
section
variable {R:Nat→World→World→Prop} {P:Program} {n:NN} {ops:Array Oper} {A:Nat→World→Prop} {Fin:List Oper→(Rho→Fr)→(Rho→Nat→World→Prop)→Prop} {rest:List Oper} {k:Nat} {E:List Ent} {g:Rho→Fr} {H:Rho→Nat→World→Prop} {d:Tmp} {t:TypeId} {pos:String} {af:Array Edge}
theorem DW_appS {bl:Option Nat} {size bytes m q base:Nat} {ty e:TypeId} {v u:Value} {xs ys:List Value} {x y:Operand} [TSlice P ty e] [hz:TElem P e size bytes]
   (hx:∀ r,ev n (g r) x=v) (hy:∀ r,ev n (g r) y=u) (hbl:v.ownBlock=bl) (hA:∀ w,A k w→w.ownsRow base e size v m xs∧base≤w.heap.size) (hrow:∀ w,A k w→∃ lo hi,Row w lo hi size u q ys)
   (h1:∀ q∈ys,q.oneCell'=true) (hb:(m+q) * bytes≤140737488355328) (hm:m+q≤9223372036854775807)
   (hr:DW (RA k bl e size m) P n ops A Fin rest (k+1) E (fun r=>upd (g r) d (r k)) (fun r j w=>bif Nat.beq j k then w.ownsRow base e size (r k) (m+q) (xs++ys) else H r j w)) :
   DW (RA k bl e size m) P n ops A Fin (⟨some d,.call ⟨.builtin .append,#[x,y],#[ty,ty]⟩,t,pos,af,none⟩ :: rest) k (.op (fun r w=>w.ownsRow base e size (r k) (m+q) (xs++ys)) :: E) g H:=by
 obtain ⟨z,h0,hzs,hsz⟩:=hz.h;haveI:TInfo P e size bytes z:=⟨h0⟩;refine DW_dr (F:=fun _ u w=>w.ownsRow base e size u (m+q) (xs++ys)) ?_ ?_ (fun _ _=>rfl) hr
 · intro r w hAw hH;obtain ⟨lo,hi,hR⟩:=hrow w hAw;obtain ⟨ho,hbs⟩:=hA w hAw;obtain ⟨v',w',hX,h2,h3,_,h5⟩:=z2c (P:=P) (ty:=t) (t:=ty) hzs hsz ho hR h1 hb hm hbs;exact ⟨v',w',z1s (hx r) (hy r) hX,.inr ⟨rfl,hbl ▸ h3,h5⟩,h2⟩
 · exact fun i r u w w' hi _ hR hF=>q1g hF (hR.other hi)
end
end Go.Proofs.K
namespace Go.Proofs.YtlcnkadkbcoadaaGreatDoor
open Go.RowKit Go.Proofs.K
theorem z2l {k:IntKind} {I:List Nat} {i x:Nat} (h:I[i]?=some x):(ints k I)[i]?=some (.int k (x:Nat)):=by unfold ints;rw [List.getElem?_map,h];rfl
theorem gdigest (B p:Nat) (ds:List Nat) (l:List Nat) (w:World) (hd:ds.length=32) (hl:l.length≤99999000) (hB:B≤w.heap.size) (he:EncAt B p w l) :
   Calls Tryz.prog 60 #[ptr p,.agg (ints .u8 ds).toArray] w (EncR B p l ds w):=by
 refine q0j Tryz.func60 Y Tryz.ntmps60 Y ?_;have hp:=he.lt;(refine q0b<|q0a ?_);refine q2s (l:=ints .u8 ds) Y ?_;intro g2 w2 B2 hg2 E2 hs2;obtain ⟨v,bv,ov⟩:=he.ext E2;have hne:=z0j ov bv;have hv1:=q3s (Row.of_own ov);have hne2:∀ q,v.ownBlock=some q→q ≠ g2:=by
   rintro q hq rfl;obtain ⟨_,cs,fz,h⟩:=q3m ov q hq;have h':w2.heap[q]?=some (.cells _ _ _):=B2;rw [h] at h';cases h'
 have BA:∀ {u:World},AA w2 v.ownBlock B 5 1 v l.length (ints .u8 l) u→Blk u p 149 [v]:=fun hA=>bv.grown hA.g (fun h=>hne _ h Y);have BD:∀ {u:World},AA w2 v.ownBlock B 5 1 v l.length (ints .u8 l) u→Blk u g2 42 (ints .u8 ds):=fun hA=>B2.grown hA.g (fun h=>hne2 _ h Y);have hB2:=Nat.le_trans hB E2.size;(refine q0c<|tn ?_);apply z0b (R:=RA 6 v.ownBlock 5 1 l.length) (AA w2 v.ownBlock B 5 1 v l.length (ints .u8 l)) 7 (by kernel_rfl) (RA.refl _ _ _ _ _) (AA.new ov) AA.step;(apply DW_x (fun r w hA hH=>(q0d (v:=.pointer _) Y).trans Y);apply DW_x (fun r w hA hH=>(q0d (v:=.pointer _) Y).trans Y);apply DW_x (fun r w hA hH=>(q1m Y).trans Y);apply DW_x (fun r w hA hH=>(q0g Y).trans Y);apply DW_x (fun r w hA hH=>(X_ld Y (BA hA) Y).trans Y));with_reducible apply DW_x (V:=fun _=>.slice (some ⟨g2,0,none⟩) 32 32)
 exact fun r u hA hH=>q8r (m:=32) (size:=1) (i:=0) (j:=32) Y Y Y (by decide) (by decide);with_reducible apply DW_appS (v:=v) (u:=.slice (some ⟨g2,0,none⟩) 32 32) (q:=32) (size:=1) (bytes:=1) (m:=l.length) (base:=B) (xs:=ints .u8 l) (ys:=ints .u8 ds)
 exact fun r=>rfl;exact fun r=>rfl;rfl;exact fun u hA=>⟨hA.o,Nat.le_trans hB2 hA.g.size⟩;exact fun u hA=>⟨g2,g2+1,Row.of_blkH (BD hA) (by omega) (by unfold maxLen;omega) (by rw [q0v,hd]) fun j u h=>by rw [Nat.zero_add];exact h⟩;exact fun q hq=>q1v q hq;omega;omega;((with_reducible exact q2c);(exact rfl);(repeat (first | exact .inr (.inr (fun _ _=>by with_reducible rfl)) | (refine And.intro ?_ ?_) | exact .inr (.inl rfl) | exact .inl (by decide +kernel) | exact trivial | exact .inr (.inr (fun _ _=>rfl))));(try dsimp only [Nat.reduceAdd]));intro r w3 hA H;have o3:w3.ownsRow B 5 1 (r 6) (l.length+32) (ints .u8 l++ints .u8 ds):=H 6;have b3:=BA hA;have k3:EncK B p w w3:=(EncK.of_ext E2).trans (EncK.own ov hA.g);generalize r 6=v3 at *;have hv3:=q3s (Row.of_own o3);(refine Ls (q1m Y)<|Ls (q0g Y) ?_);refine q1b (v:=v3) Y Y hv3 b3 (by simp) ?_;intro w4 b4 hg4 _;have hne4:=z0j o3 b3;have o4:=q2n o3 hg4 fun q hq e=>hne4 q hq (Option.some.inj e).symm;(refine q0c ?_);refine q1h Y Y ?_;refine ⟨rfl,⟨v3,b4,?_⟩,k3.trans (EncK.set hg4)⟩;rw [q4p,List.length_append,hd];exact o4
end Go.Proofs.YtlcnkadkbcoadaaGreatDoor
namespace Go.Proofs.K
open Go.RowKit
section
variable {P:Program} {n:NN} {Q:Exit→Fr→World→Prop} {f:Fr} {w:World} {ops:Array Oper} {rest:List Oper} {d:Tmp} {t ty e:TypeId} {pos:String} {af:Array Edge} {x:Operand} {k:IntKind}
theorem z2z {dd:Option Tmp} {g:Option (Nat × Bool)} {T:TypeId} {v:Value} (hx:ev n f x=.iface T v):X P n ⟨dd,.panic x,t,pos,af,g⟩ f w=.halt (.panic (.iface T v)) w:=by
 simp [X,execOp,hx,Instr.panic,goPanic]
theorem q8g {dd:Option Tmp} {g:Option (Nat × Bool)} [hs:TInt P ty k] {v:Value} (hx:ev n f x=v):X P n ⟨dd,.makeInterface ty x,t,pos,af,g⟩ f w=.ok (.value (.iface ty v)) w:=by
 subst hx;simp [X,execOp,Instr.makeInterface,run_underlying hs.h]
theorem X_s2ap {dd:Option Tmp} {g:Option (Nat × Bool)} {m:Nat} [hs:TArr P ty m e] {A:Option Addr} {len c:Nat} (hx:ev n f x=.slice A len c) (h:m≤len):X P n ⟨dd,.sliceToArrayPointer ty x,t,pos,af,g⟩ f w=.ok (.value (.pointer A)) w:=by
 have h':¬ len < m:=by omega
 simp [X,execOp,hx,Instr.arrayAt,run_underlying hs.h,h']
theorem q8l {id:FuncId} [TFun P id] {l:List Operand} {vl:List Value} {tys:Array TypeId} {R:Ending→World→Prop} (c:Calls P id vl.toArray w R) (ha:l.map (ev n f)=vl)
   (h:∀ e w',R e w'→(∃ v,e=.returned v∧L P n ops Q rest (upd f d v) w')∨∃ ch,e=.panicked ch∧Q (.panic ch) f w'):L P n ops Q (⟨some d,.call ⟨.value (.func id),l.toArray,tys⟩,t,pos,af,none⟩ :: rest) f w :=
 L_callZ Y (X_fn ha) c h
theorem z1f {id:FuncId} [TFun P id] {l:List Operand} {vl:List Value} {tys:Array TypeId} {first cap:Array Value} {R:Ending→World→Prop} (hx:ev n f x=.func (.func id) first cap) (c:Calls P id (first++vl.toArray++cap) w R) (ha:l.map (ev n f)=vl)
   (h:∀ e w',R e w'→(∃ v,e=.returned v∧L P n ops Q rest (upd f d v) w')∨∃ ch,e=.panicked ch∧Q (.panic ch) f w'):L P n ops Q (⟨some d,.call ⟨.value x,l.toArray,tys⟩,t,pos,af,none⟩ :: rest) f w :=
 L_callZ Y (X_clo hx ha) c h
theorem L_sliceN {N:Nat→Prop} {size m i j:Nat} [hs:TSlice P ty e] [hz:TSz P e size] {v:Value} {xs:List Value} {lo hi:Option Operand} (hx:ev n f x=v) (hr:RowN N w size v m xs)
   (hlo:match lo with | none=>i=0 | some o=>∃ k,ev n f o=.int k (i:Int)) (hhi:match hi with | none=>j=m | some o=>∃ k,ev n f o=.int k (j:Int)) (hij:i≤j) (hj:j≤m)
   (h:∀ u,RowN N w size u (j - i) ((xs.drop (i * size)).take ((j - i) * size))→L P n ops Q rest (upd f d u) w):L P n ops Q (⟨some d,.slice ty x lo hi none,t,pos,af,none⟩ :: rest) f w:=by
 obtain ⟨l,hh,hN,R⟩:=hr;obtain ⟨A,c,e,hc,hm⟩:=RowN.form ⟨l,hh,hN,R⟩;subst e;exact Ls (z2y hx hlo hhi hij (Nat.le_trans hj hc)) (h _ ⟨l,hh,hN,R.slice Y hij hj⟩)
end
end Go.Proofs.K
namespace Ce
theorem numN_snoc:∀ (l:List Nat) (x:Nat),numN (l++[x])=numN l+x * 256 ^ l.length
 | [],x=>by simp [numN]
 | b :: l,x=>by
   show b+256 * numN (l++[x])=b+256 * numN l+x * 256 ^ (l.length+1);rw [numN_snoc l x,Nat.pow_succ,Nat.mul_add];have:256 * (x * 256 ^ l.length)=x * (256 ^ l.length * 256):=(by rw [← Nat.mul_assoc,Nat.mul_comm 256 x,Nat.mul_assoc,Nat.mul_comm 256 (256 ^ l.length)]);omega
end Ce
namespace Go.Proofs.YtlcnkadkbcoadaaGreatDoor
open Go.RowKit Go.Proofs.K
structure DecAt (N:Nat→Prop) (p:Nat) (w:World) (l:List Nat):Prop where
 h:∃ v,Blk w p 146 [v]∧RowN N w 1 v l.length (ints .u8 l)
 b:∀ b∈l,b < 256
 n:∀ q,N q→q ≠ p∧q < w.heap.size
theorem DecAt.grown {N:Nat→Prop} {p:Nat} {w w':World} {l:List Nat} {row:Option Nat} (h:DecAt N p w l) (hg:w.grownBy w' row) (hp:row ≠ some p) (hN:∀ q,row=some q→¬ N q):DecAt N p w' l:=by
 obtain ⟨⟨v,b,r⟩,h8,hn⟩:=h;exact ⟨⟨v,b.grown hg hp,r.grown hg hN⟩,h8,fun q hq=>⟨(hn q hq).1,Nat.lt_of_lt_of_le (hn q hq).2 hg.size⟩⟩
theorem DecAt.ext {N:Nat→Prop} {p:Nat} {w w':World} {l:List Nat} (h:DecAt N p w l) (E:Ext w w'):DecAt N p w' l:=by
 obtain ⟨⟨v,b,r⟩,h8,hn⟩:=h;exact ⟨⟨v,b.ext E,r.ext E⟩,h8,fun q hq=>⟨(hn q hq).1,Nat.lt_of_lt_of_le (hn q hq).2 E.size⟩⟩
theorem DecAt.lt {N:Nat→Prop} {p:Nat} {w:World} {l:List Nat} (h:DecAt N p w l):p < w.heap.size:=by
 obtain ⟨⟨v,b,r⟩,h8,hn⟩:=h;exact q2b b
abbrev erV (x:Nat):List PanicEntry:=[{ v:=.iface 33 (.int .i64 (x:Nat)),recovered:=false }]
def DecR {α:Type} (S:Ce.Ps α) (R:Rep α) (V:List Value→Value) (N:Nat→Prop) (p:Nat) (l:List Nat) (w:World) (e:Ending) (w':World):Prop :=
 w.grownBy w' (some p)∧match S l with
   | .err x=>e=.panicked (erV x)
   | .got a r=>∃ y,e=.returned (V y)∧R (fun k=>w.heap.size≤k∧k < w'.heap.size) w' y a∧DecAt N p w' r
theorem dtake (N:Nat→Prop) (p n:Nat) (l:List Nat) (w:World) (hn:n≤4294967296) (he:DecAt N p w l) :
   Calls Tryz.prog 252 #[.pointer (some ⟨p,0,none⟩),.int .i64 (n:Nat)] w fun e w'=>w.grownBy w' (some p)∧match Ce.take n l with
     | .err x=>e=.panicked (erV x)
     | .got a r=>∃ v,e=.returned v∧a.length=n∧RowN N w' 1 v a.length (ints .u8 a)∧DecAt N p w' r:=by
 refine q0j Tryz.func252 Y Tryz.ntmps252 Y ?_;obtain ⟨⟨v,bv,rv⟩,h8,hn8⟩:=he;obtain ⟨A,c,e,hlc,hcm⟩:=rv.form;subst e;(refine q0b<|q0a<|a_S Y<|q0c<|tn<|q0b<|q0b<|q0a<|m_P Y<|Ls (q1m Y)<|Ls (q0g Y)<|Ls (X_ld Y bv Y)<|Ls (q0i Y)<|m_I Y<|Ls (q2h Y Y)<|q0c<|tn ?_);refine q0x Y (fun h=>?_) (fun h=>?_)
 · have hl:l.length < n:=(by omega);(refine q0a ?_);refine Ls (q8g Y) ?_;refine L_halt Y Y (z2z Y) ?_;refine ⟨rfl,World.grownBy.refl _ _,?_⟩;unfold Ce.take;rw [if_pos hl];rfl
 · have hl:n≤l.length:=(by omega);(refine q0l<|tn<|q0b<|q0a<|m_P Y<|Ls (q1m Y)<|Ls (q0g Y)<|Ls (X_ld Y bv Y)<|m_I Y ?_);refine L_sliceN (i:=0) (j:=n) Y rv Y ⟨_,rfl⟩ (by omega) hl ?_;intro u1 r1;have hu1:=r1.cell1;(refine Ls (q0m (v:=u1) Y)<|q0c<|tn<|q0b<|q0a<|m_P Y<|m_P Y<|Ls (q1m Y)<|Ls (q0g Y)<|Ls (X_ld Y bv Y)<|m_I Y ?_);refine L_sliceN (i:=n) (j:=l.length) Y rv ⟨_,rfl⟩ Y hl (Nat.le_refl _) ?_;intro u2 r2;have hu2:=r2.cell1;(refine Ls (q1m Y)<|Ls (q0g Y) ?_);refine q1b (v:=u2) Y Y hu2 bv (by simp) ?_;intro w1 b1 hg1 _;(refine q0c<|tn<|q0b<|q0a<|Ls (q0d (v:=u1) Y)<|Ls (q0m (v:=u1) Y)<|q0c<|tn<|q0s ?_);refine q0f Y Y (v:=u1) Y ?_;refine ⟨hg1,?_⟩;have hN:∀ q,some p=some q→¬ N q:=fun q hq h=>(by cases hq;exact (hn8 _ h).1 Y);have ht:(l.take n).length=n:=(by rw [List.length_take];omega);unfold Ce.take;rw [if_neg (by omega)];refine ⟨u1,rfl,ht,(r1.re (by omega) ?_).grown hg1 hN,⟨u2,b1,(r2.re ?_ ?_).grown hg1 hN⟩,fun b hb=>h8 b (List.mem_of_mem_drop hb),fun q hq=>⟨(hn8 q hq).1,Nat.lt_of_lt_of_le (hn8 q hq).2 hg1.size⟩⟩
   · rw [Nat.zero_mul,List.drop_zero,Nat.mul_one,Nat.sub_zero,q9n]
   · rw [List.length_drop]
   · rw [Nat.mul_one,Nat.mul_one,z2m,q9n,List.take_of_length_le (by rw [List.length_drop];omega)]
theorem shlB {x i:Nat} (hx:x < 256) (hi:i≤7):IntKind.u64.wrap ((x:Int) * 2 ^ min ((8:Int) * (i:Int)).toNat IntKind.u64.bits)=((x * 256 ^ i:Nat):Int):=by
 have h1:((8:Int) * (i:Int)).toNat=8 * i:=by omega
 have h2:min (8 * i) IntKind.u64.bits=8 * i:=by
   show min (8 * i) 64=8 * i;omega
 have h3:x * 256 ^ i < 18446744073709551616:=by
   have h4:256 ^ i≤256 ^ 7:=Nat.pow_le_pow_right (by decide) hi;have h5:x * 256 ^ i≤255 * 256 ^ 7:=Nat.mul_le_mul (by omega) h4;exact Nat.lt_of_le_of_lt h5 (by decide)
 rw [h1,h2,show ((x:Int) * 2 ^ (8 * i))=((x * 256 ^ i:Nat):Int) by rw [show (256:Nat)=2 ^ 8 from rfl,← Nat.pow_mul];push_cast;rfl,q7f,Nat.mod_eq_of_lt h3]
theorem orB {s x i:Nat} (hs:s < 256 ^ i) (hx:x < 256) (hi:i≤7):bits .or .u64 (s:Int) ((x * 256 ^ i:Nat):Int)=((s+x * 256 ^ i:Nat):Int):=by
 have h4:256 ^ i≤256 ^ 7:=Nat.pow_le_pow_right (by decide) hi;have h5:x * 256 ^ i≤255 * 256 ^ 7:=Nat.mul_le_mul (by omega) h4;have h6:(255 * 256 ^ 7:Nat) < 18446744073709551616:=by decide
 have h7:(256 ^ 7:Nat) < 18446744073709551616:=by decide
 rw [q9d s _ (by omega) (by omega)];have h8:(256:Nat) ^ i=2 ^ (8 * i):=by rw [Nat.pow_mul]
 rw [h8] at hs ⊢;rw [Nat.or_comm,Nat.mul_comm,← Nat.two_pow_add_eq_or_of_lt hs,Nat.add_comm]
theorem dfixed (N:Nat→Prop) (p k:Nat) (l:List Nat) (w:World) (hk:k≤8) (he:DecAt N p w l) :
   Calls Tryz.prog 253 #[.pointer (some ⟨p,0,none⟩),.int .i64 (k:Nat)] w fun e w'=>w.grownBy w' (some p)∧match Ce.num k l with
     | .err x=>e=.panicked (erV x)
     | .got a r=>e=.returned (.int .u64 (a:Nat))∧a < 256 ^ k∧DecAt N p w' r:=by
 refine q0j Tryz.func253 Y Tryz.ntmps253 Y ?_;have hl8:∀ b∈l,b < 256:=he.b;have ct:=dtake N p k l w (by omega) he;have hnum:∀ x,Ce.take k l=x→Ce.num k l=x.bind fun l=>Ce.Ps.pure (Ce.numN l):=fun x h=>by rw [← h];rfl
 (refine q0b<|q0a<|a_I Y<|q0c<|tn<|q0b<|q0a<|a_I Y<|q0c<|tn<|q0b<|q0b<|q0a<|m_P Y<|m_I Y ?_);cases hS:Ce.take k l with
 | err x =>
   rw [hS] at ct;rw [hnum _ hS];refine q8l ct Y ?_;rintro e w1 ⟨hg1,rfl⟩;exact .inr ⟨_,rfl,rfl,hg1,rfl⟩
 | got a r =>
   rw [hS] at ct;rw [hnum _ hS];have ha8:∀ b∈a,b < 256:=by
     have h1:Ce.take k l=.got a r:=hS;unfold Ce.take at h1;split at h1
     · cases h1
     · cases h1
       exact fun b hb=>hl8 b (List.mem_of_mem_take hb)
   refine L_fn ct Y ?_;rintro e w1 ⟨hg1,v,rfl,hak,rv,e1⟩;refine ⟨_,rfl,?_⟩;obtain ⟨A,c,e,hlc,hcm⟩:=rv.form;subst e;(refine Ls (q0i Y)<|m_I Y<|q0c<|tn<|q0p ?_);refine q1e (fun q f w'=>∃ i,q=k - i∧i≤k∧f 5=.int .u64 (Ce.numN (a.take i):Nat)∧f 10=.slice A a.length c∧f 11=.int .i64 (a.length:Nat)∧f 12=.int .i64 (i:Nat)∧w'=w1) k ?_ ?_
   · exact ⟨0,rfl,by omega,rfl,rfl,rfl,rfl,rfl⟩
   · rintro q f w2 ⟨i,rfl,hi,f5,f10,f11,f12,rfl⟩;rw [fold f5,fold f10,fold f11,fold f12];have hlt:=Ce.num_lt (a.take i) fun b hb=>ha8 b (List.mem_of_mem_take hb);rw [List.length_take,Nat.min_eq_left (by omega)] at hlt;(refine q0b<|q0a<|Ls (q2h Y Y)<|q0c<|tn<|q0b ?_);refine q0x Y (fun h=>?_) (fun h=>?_)
     · have hi':i < a.length:=(by omega);obtain ⟨x,hx⟩:∃ x,a[i]?=some x:=⟨_,List.getElem?_eq_getElem hi'⟩;have hx8:=ha8 x (List.mem_of_getElem? hx);have hi7:i≤7:=(by omega);obtain ⟨b,o,c',e,_,_,_,hcell⟩:=rv.at hi';cases e
       (refine q0l<|tn<|q0b<|q0p<|q0b<|q0a<|m_I Y<|Ls (q0q Y Y (by omega))<|Ls (q1p Y hcell (j:=i) (by omega) (z2l hx))<|a_I Y<|a_I Y<|q0c<|tn<|q0a<|m_I Y<|m_I Y<|Ls ((q3d Y).trans (by rw [q7f,Nat.mod_eq_of_lt (show x < 18446744073709551616 by omega)]))<|m_I Y<|Ls (q5r Y Y (by omega))<|Ls ((q7v Y Y (by omega)).trans (by rw [shlB hx8 hi7]))<|Ls ((X_or Y Y).trans (by rw [orB hlt hx8 hi7]))<|a_I Y<|q0c<|bn<|tn<|q0a<|Ls (q1c Y Y (by omega))<|m_I Y<|q0c<|tn ?_);refine ⟨k - (i+1),by omega,i+1,rfl,by omega,?_,rfl,rfl,rfl,rfl⟩;have:a.take (i+1)=a.take i++[x]:=(by rw [List.take_add_one,hx];rfl);rw [this,Ce.numN_snoc,List.length_take,Nat.min_eq_left (by omega)];rfl
     · obtain rfl:i=k:=(by omega);(refine q1d<|te<|te<|bx<|tn<|q0b<|q0a<|m_I Y<|a_I Y<|q0c<|tn<|q0s ?_);refine q0f Y Y (v:=.int .u64 _) Y ?_;rw [List.take_of_length_le (by omega)] at hlt ⊢;exact ⟨hg1,rfl,hlt,e1⟩
end Go.Proofs.YtlcnkadkbcoadaaGreatDoor
namespace Go.Proofs.YtlcnkadkbcoadaaGreatDoor
open Go.RowKit Go.Proofs.K
theorem elemB {B p:Nat} {N:Nat→Prop} {l:List Nat} {w0:World} (h:∀ e∈l,e < 256):q8y 58 #[ptr p] #[] B p N (numR .u8) (fun x=>x.headD .nilIface) Ce.byteC.w l w0:=by
 intro i a ha w x l0 k hx hlen hB he;obtain rfl:x=[.int .u8 (a:Nat)]:=hx;have h1:=h a (List.mem_of_getElem? ha)
 rw [show Ce.byteC.w a=[a] from by
   show Ce.byN 1 a=[a]
   simp [Ce.byN,List.range_succ]
   omega]
 exact gbyte B p a l0 w (by omega) hB he
def sumR:Rep Nat:=fun _ _ x a=>∃ z:Int,x=[.int .i64 z]∧u64v z=a∧-9223372036854775808≤z∧z≤9223372036854775807
theorem q3x:sumR.Ok:=⟨fun h _=>h,fun h _ _=>h,fun h _ _=>h,fun h=>h,fun h v hv=>by
 obtain ⟨z,h,_⟩:=h
 subst h
 simp at hv
 subst hv
 rfl⟩
theorem elemI {B p:Nat} {N:Nat→Prop} {l:List Nat} {w0:World}:q8y 62 #[ptr p] #[] B p N sumR (fun x=>x.headD .nilIface) (Ce.numC 8).w l w0:=by
 intro i a ha w x l0 k hx hlen hB he;obtain ⟨z,rfl,rfl,_⟩:=hx;exact gsum B p z l0 w (by omega) hB he
theorem elemD {B p:Nat} {N:Nat→Prop} {l:List (List Nat)} {w0:World}:q8y 60 #[ptr p] #[] B p N (byR 32) (fun x=>.agg x.toArray) (Ce.raw 32).w l w0:=by
 intro i a ha w x l0 k hx hlen hB he;obtain ⟨rfl,hl⟩:=hx;exact gdigest B p a l0 w hl (by omega) hB he
structure CerAt (N:Nat→Prop) (w:World) (c:Ce.Cert) (qb:ByteArray) (s1 p1 p2 p3 b1 o1 o2 o3 o4:Value):Prop where
 q:c.q=sb qb
 s1:slR 1 sumR N w [s1] c.sums
 p1:slR 1 (slR 2 exR) N w [p1] c.rows
 p2:slR 6 lpR N w [p2] c.ps
 p3:slR 6 lpR N w [p3] c.pz
 b1:slR 1 (slR 2 exR) N w [b1] c.batch
 o1:slR 2 exR N w [o1] c.orow
 o2:slR 2 exR N w [o2] c.ornd
 o3:slR 1 (slR 1 (numR .u64)) N w [o3] c.cols
 o4:slR 32 (byR 32) N w [o4] c.nodes
def cerC (c:Ce.Cert) (qb:ByteArray) (s1 p1 p2 p3 b1 o1 o2 o3 o4:Value):List Value :=
 [.string qb,.int .i64 (c.log:Nat)]++ints .u8 c.root++[.int .i64 (c.sR:Nat),.int .i64 (c.sC:Nat),.int .i64 (c.sB:Nat),.int .i64 (c.sT:Nat),s1,p1,p2,p3,b1,.int .u64 (c.v.1:Nat),.int .u64 (c.v.2:Nat),o1,o2,o3,o4]
theorem q2w {c:Ce.Cert} {qb:ByteArray} {s1 p1 p2 p3 b1 o1 o2 o3 o4:Value} (hc:c.root.length=32) {j:Nat} {u:Value} (h:[.int .i64 (c.sR:Nat),.int .i64 (c.sC:Nat),.int .i64 (c.sB:Nat),.int .i64 (c.sT:Nat),s1,p1,p2,p3,b1,.int .u64 (c.v.1:Nat),.int .u64 (c.v.2:Nat),o1,o2,o3,o4][j]?=some u):(cerC c qb s1 p1 p2 p3 b1 o1 o2 o3 o4)[j+34]?=some u:=by
 unfold cerC;rw [List.append_assoc,List.getElem?_append_right (by simp),List.getElem?_append_right (by rw [q0v,hc];simp)];rw [show j+34 - [Value.string qb,.int .i64 (c.log:Nat)].length - (ints .u8 c.root).length=j by rw [q0v,hc];simp];exact h
def cerR:Rep Ce.Cert:=fun N w x c=>∃ qb s1 p1 p2 p3 b1 o1 o2 o3 o4,x=cerC c qb s1 p1 p2 p3 b1 o1 o2 o3 o4∧c.root.length=32∧CerAt N w c qb s1 p1 p2 p3 b1 o1 o2 o3 o4
theorem CerAt.ext {N:Nat→Prop} {w w':World} {c:Ce.Cert} {qb:ByteArray} {s1 p1 p2 p3 b1 o1 o2 o3 o4:Value} (h:CerAt N w c qb s1 p1 p2 p3 b1 o1 o2 o3 o4) (E:Ext w w'):CerAt N w' c qb s1 p1 p2 p3 b1 o1 o2 o3 o4 :=
 ⟨h.q,(q1x (by decide) q3x).ext h.s1 E,q1z.ext h.p1 E,q2u.ext h.p2 E,q2u.ext h.p3 E,q1z.ext h.b1 E,q1s.ext h.o1 E,q1s.ext h.o2 E,q6g.ext h.o3 E,q6f.ext h.o4 E⟩
theorem CerAt.keep {N:Nat→Prop} {w w':World} {c:Ce.Cert} {qb:ByteArray} {s1 p1 p2 p3 b1 o1 o2 o3 o4:Value} {B g:Nat} {T:TypeId} (h:CerAt N w c qb s1 p1 p2 p3 b1 o1 o2 o3 o4) (k:KeepTy B g T w w') (hN:∀ q,N q→q ≠ g∧q < B):CerAt N w' c qb s1 p1 p2 p3 b1 o1 o2 o3 o4 :=
 ⟨h.q,(q1x (by decide) q3x).keep h.s1 k hN,q1z.keep h.p1 k hN,q2u.keep h.p2 k hN,q2u.keep h.p3 k hN,q1z.keep h.b1 k hN,q1s.keep h.o1 k hN,q1s.keep h.o2 k hN,q6g.keep h.o3 k hN,q6f.keep h.o4 k hN⟩
theorem CerAt.tight {N:Nat→Prop} {w:World} {c:Ce.Cert} {qb:ByteArray} {s1 p1 p2 p3 b1 o1 o2 o3 o4:Value} (h:CerAt N w c qb s1 p1 p2 p3 b1 o1 o2 o3 o4):CerAt (fun k=>N k∧k < w.heap.size) w c qb s1 p1 p2 p3 b1 o1 o2 o3 o4 :=
 ⟨h.q,(q1x (by decide) q3x).tight h.s1,q1z.tight h.p1,q2u.tight h.p2,q2u.tight h.p3,q1z.tight h.b1,q1s.tight h.o1,q1s.tight h.o2,q6g.tight h.o3,q6f.tight h.o4⟩
structure Cert64 (c:Ce.Cert):Prop where
 root:c.root.length=32
 log:c.log < 4294967296
 sR:c.sR < 4294967296
 sC:c.sC < 4294967296
 sB:c.sB < 4294967296
 sT:c.sT < 4294967296
 q:c.q.length < 4294967296
 sums:c.sums.length < 4294967296
 rows:c.rows.length < 4294967296∧∀ r∈c.rows,Rd64 r
 ps:c.ps.length < 4294967296∧∀ r∈c.ps,Lp64 r
 pz:c.pz.length < 4294967296∧∀ r∈c.pz,Lp64 r
 batch:c.batch.length < 4294967296∧∀ r∈c.batch,Rd64 r
 v:E64 c.v
 orow:Rd64 c.orow
 ornd:Rd64 c.ornd
 cols:c.cols.length < 4294967296∧∀ r∈c.cols,r.length < 4294967296∧∀ e∈r,e < 18446744073709551616
 nodes:c.nodes.length < 4294967296
 all:(Ce.certC.w c).length≤99990000
theorem by4_len:∀ l:List Nat,(l.flatMap (Ce.byN 4)).length=4 * l.length
 | []=>rfl
 | x :: l=>by
   rw [List.flatMap_cons,List.length_append,Ce.byN_len,by4_len l,List.length_cons];omega
theorem cert_w (c:Ce.Cert):Ce.certC.w c=(Ce.lst Ce.byteC).w c.q++(Ce.byN 4 c.log++(c.root++(Ce.byN 4 c.sR++(Ce.byN 4 c.sC++(Ce.byN 4 c.sB++(Ce.byN 4 c.sT++((Ce.lst (Ce.numC 8)).w c.sums++((Ce.lst Ce.roundC).w c.rows++((Ce.lst Ce.lpC).w c.ps++((Ce.lst Ce.lpC).w c.pz++((Ce.lst Ce.roundC).w c.batch++(Ce.extC.w c.v++(Ce.roundC.w c.orow++(Ce.roundC.w c.ornd++((Ce.lst (Ce.lst Ce.wordC)).w c.cols++(Ce.lst (Ce.raw 32)).w c.nodes))))))))))))))):=rfl
theorem round_len (l:List (Nat × Nat)):(Ce.roundC.w l).length=4+(l.flatMap Ce.extC.w).length:=z4u _ _
theorem DecR.err {α:Type} {S:Ce.Ps α} {R:Rep α} {V:List Value→Value} {N:Nat→Prop} {p x:Nat} {l:List Nat} {w w':World} (hg:w.grownBy w' (some p)) (h:S l=.err x):DecR S R V N p l w (.panicked (erV x)) w':=⟨hg,by rw [h]⟩
theorem DecR.got {α:Type} {S:Ce.Ps α} {R:Rep α} {V:List Value→Value} {N:Nat→Prop} {p:Nat} {l r:List Nat} {a:α} {w w':World} (hg:w.grownBy w' (some p)) (h:S l=.got a r) (y:List Value) (hy:R (fun k=>w.heap.size≤k∧k < w'.heap.size) w' y a) (he:DecAt N p w' r):DecR S R V N p l w (.returned (V y)) w':=⟨hg,by rw [h];exact ⟨y,rfl,hy,he⟩⟩
abbrev hdV:List Value→Value:=fun y=>y.headD .nilIface
abbrev agV:List Value→Value:=fun y=>.agg y.toArray
theorem i64N {x:Nat} (h:x < 4294967296):IntKind.i64.wrap (x:Int)=(x:Int):=by rw [IntKind.wrap_i64];omega
theorem u64v_i64 {x:Nat} (h:x < 18446744073709551616):u64v (IntKind.i64.wrap (x:Int))=x:=by
 unfold u64v;rw [IntKind.wrap_i64];omega
theorem i64_rng (z:Int):-9223372036854775808≤IntKind.i64.wrap z∧IntKind.i64.wrap z≤9223372036854775807:=by rw [IntKind.wrap_i64];omega
theorem z0p (x:Nat) (w:World):Calls Tryz.prog 151 #[.int .u64 (x:Nat)] w fun e w'=>e=.returned (.bool (decide (x < Ce.pr)))∧w'=w:=by
 refine q0j Tryz.func151 Y Tryz.ntmps151 Y ?_;(refine q0b<|q0a<|a_B Y<|q0c<|tn<|q0b<|q0a<|m_I Y<|Ls (q2h Y Y)<|a_B Y<|q0c<|tn<|q0s ?_);refine q0f Y Y (v:=.bool _) Y ⟨?_,rfl⟩;have:(decide ((x:Int) < 18446744069414584321))=decide (x < Ce.pr):=by
   apply decide_eq_decide.2;unfold Ce.pr;omega
 rw [← this]
theorem dint (N:Nat→Prop) (p:Nat) (l:List Nat) (w:World) (he:DecAt N p w l) :
   Calls Tryz.prog 131 #[.pointer (some ⟨p,0,none⟩)] w fun e w'=>w.grownBy w' (some p)∧match Ce.num 4 l with
     | .err x=>e=.panicked (erV x)
     | .got a r=>e=.returned (.int .i64 (a:Nat))∧a < 4294967296∧DecAt N p w' r:=by
 refine q0j Tryz.func131 Y Tryz.ntmps131 Y ?_;have ct:=dfixed N p 4 l w (by omega) he;(refine q0b<|q0a<|a_I Y<|q0c<|tn<|q0b<|q0a<|m_P Y ?_);cases hS:Ce.num 4 l with
 | err x =>
   rw [hS] at ct;refine q8l ct Y ?_;rintro e w1 ⟨hg1,rfl⟩;exact .inr ⟨_,rfl,rfl,hg1,rfl⟩
 | got a r =>
   rw [hS] at ct;refine L_fn ct Y ?_;rintro e w1 ⟨hg1,rfl,ha,e1⟩;refine ⟨_,rfl,?_⟩;have ha':a < 4294967296:=ha;(refine Ls ((q3d Y).trans (by rw [i64N ha']))<|a_I Y<|q0c<|tn<|q0s ?_);exact q0f Y Y (v:=.int .i64 _) Y ⟨hg1,rfl,ha,e1⟩
theorem dsum (N:Nat→Prop) (p:Nat) (l:List Nat) (w:World) (he:DecAt N p w l) :
   Calls Tryz.prog 134 #[.pointer (some ⟨p,0,none⟩)] w (DecR (Ce.numC 8).p sumR hdV N p l w):=by
 refine q0j Tryz.func134 Y Tryz.ntmps134 Y ?_;have ct:=dfixed N p 8 l w (by omega) he;(refine q0b<|q0a<|a_I Y<|q0c<|tn<|q0b<|q0a<|m_P Y ?_);cases hS:Ce.num 8 l with
 | err x =>
   rw [hS] at ct;refine q8l ct Y ?_;rintro e w1 ⟨hg1,rfl⟩;exact .inr ⟨_,rfl,rfl,DecR.err hg1 hS⟩
 | got a r =>
   rw [hS] at ct;refine L_fn ct Y ?_;rintro e w1 ⟨hg1,rfl,ha,e1⟩;refine ⟨_,rfl,?_⟩;(refine Ls (q3d Y)<|a_I Y<|q0c<|tn<|q0s ?_);exact q0f Y Y (v:=.int .i64 _) Y (DecR.got hg1 hS [_] ⟨_,rfl,u64v_i64 ha,i64_rng _⟩ e1)
theorem dbyte (N:Nat→Prop) (p:Nat) (l:List Nat) (w:World) (he:DecAt N p w l) :
   Calls Tryz.prog 130 #[.pointer (some ⟨p,0,none⟩)] w (DecR Ce.byteC.p (numR .u8) hdV N p l w):=by
 refine q0j Tryz.func130 Y Tryz.ntmps130 Y ?_;have ct:=dtake N p 1 l w (by omega) he;have hb:∀ x,Ce.take 1 l=x→Ce.byteC.p l=x.bind fun a=>Ce.Ps.pure (Ce.numN a):=fun x h=>by rw [← h];rfl
 (refine q0b<|q0a<|a_I Y<|q0c<|tn<|q0b<|q0a<|m_P Y ?_);cases hS:Ce.take 1 l with
 | err x =>
   rw [hS] at ct;refine q8l ct Y ?_;rintro e w1 ⟨hg1,rfl⟩;exact .inr ⟨_,rfl,rfl,DecR.err hg1 (hb _ hS)⟩
 | got a r =>
   rw [hS] at ct;refine L_fn ct Y ?_;rintro e w1 ⟨hg1,v,rfl,hak,rv,e1⟩;refine ⟨_,rfl,?_⟩;obtain ⟨x,rfl⟩:∃ x,a=[x]:=by
     match a,hak with
     | [x],_=>exact ⟨x,rfl⟩
   obtain ⟨b,o,c',rfl,_,_,_,hcell⟩:=rv.at (k:=0) (by simp);(refine Ls (q0q (i:=0) Y Y (by simp))<|Ls (q1p Y hcell (j:=0) (by omega) Y)<|a_I Y<|q0c<|tn<|q0s ?_);exact q0f Y Y (v:=.int .u8 _) Y (DecR.got hg1 (hb _ hS) [.int .u8 ((Ce.numN [x]:Nat):Int)] Y e1)
theorem ddigest (N:Nat→Prop) (p:Nat) (l:List Nat) (w:World) (he:DecAt N p w l) :
   Calls Tryz.prog 132 #[.pointer (some ⟨p,0,none⟩)] w (DecR (Ce.raw 32).p (byR 32) agV N p l w):=by
 refine q0j Tryz.func132 Y Tryz.ntmps132 Y ?_;(refine q0b<|q0a ?_);refine q0w ?_;intro g2 w2 B2 hg2 E2 hs2;have he2:=he.ext E2;have hpl:=he.lt;have ct:=dtake N p 32 l w2 (by omega) he2;(refine q0c<|tn<|q0b<|q0a<|m_P Y ?_);cases hS:Ce.take 32 l with
 | err x =>
   rw [hS] at ct;refine q8l ct Y ?_;rintro e w1 ⟨hg1,rfl⟩;exact .inr ⟨_,rfl,rfl,DecR.err (q0e (E2.row _) hg1 fun q h=>.inl h) hS⟩
 | got a r =>
   rw [hS] at ct;refine L_fn ct Y ?_;rintro e w1 ⟨hg1,v,rfl,hak,rv,e1⟩;refine ⟨_,rfl,?_⟩;obtain ⟨b,o,c',rfl,_,_,_,hcell⟩:=rv.at (k:=0) (by omega);have B1:=B2.grown hg1 (by intro h;cases h;omega);have hcl:(ints .u8 a).length=32:=(by rw [q0v,hak]);refine Ls (X_s2ap (m:=32) Y (by omega)) ?_;refine Ls (q2x (size:=32) (cs:=ints .u8 a) Y hcell hcl) ?_;refine q0t Y Y hcl q1v B1 Y ?_;intro w3 B3 hg3 hs3;(refine q0c<|tn<|q0s ?_);refine q0z Y Y (Res.cellA inferInstance Y (B3.range (o:=0) (fun j u h=>by simpa using h)) hcl .nil) ?_;have hg13:=q0e (q0e (E2.row (some p)) hg1 fun q h=>.inl h) hg3 fun q h=>(by cases h;exact .inr (by omega));refine DecR.got hg13 hS (ints .u8 a) ⟨rfl,hak⟩ (e1.grown hg3 (by intro h;cases h;omega) fun q h k=>by cases h;have:=(he.n _ k).2;omega)
theorem dword (N:Nat→Prop) (p:Nat) (l:List Nat) (w:World) (he:DecAt N p w l) :
   Calls Tryz.prog 255 #[.pointer (some ⟨p,0,none⟩)] w (DecR Ce.wordC.p (numR .u64) hdV N p l w):=by
 refine q0j Tryz.func255 Y Tryz.ntmps255 Y ?_;have ct:=dfixed N p 8 l w (by omega) he;have hb:∀ x,Ce.num 8 l=x→Ce.wordC.p l=x.bind (Ce.chk fun x=>decide (x < Ce.pr)):=fun x h=>by rw [← h];rfl
 (refine q0b<|q0a<|a_I Y<|q0c<|tn<|q0b<|q0a<|m_P Y ?_);cases hS:Ce.num 8 l with
 | err x =>
   rw [hS] at ct;refine q8l ct Y ?_;rintro e w1 ⟨hg1,rfl⟩;exact .inr ⟨_,rfl,rfl,DecR.err hg1 (hb _ hS)⟩
 | got a r =>
   rw [hS] at ct;refine L_fn ct Y ?_;rintro e w1 ⟨hg1,rfl,ha,e1⟩;refine ⟨_,rfl,?_⟩;have hS2:=hb _ hS;(refine a_I Y<|q0c<|tn<|q0b<|q0b<|q0a<|m_I Y ?_);refine L_fn (z0p a w1) Y ?_;rintro e _ ⟨rfl,rfl⟩;refine ⟨_,rfl,?_⟩;by_cases hv:a < Ce.pr
   · rw [decide_eq_true hv];(refine Ls (q1o Y)<|q0c<|tn ?_);refine q8j Y (fun h=>by cases h) (fun _=>?_);(refine q0l<|tn<|q0b<|q0a<|m_I Y<|a_I Y<|q0c<|tn<|q0s ?_);refine q0f Y Y (v:=.int .u64 _) Y (DecR.got hg1 (hS2.trans ?_) [.int .u64 ((a:Nat):Int)] Y e1);show Ce.chk (fun x=>decide (x < Ce.pr)) a r=_;unfold Ce.chk;rw [if_pos (decide_eq_true hv)]
   · rw [decide_eq_false hv];(refine Ls (q1o Y)<|q0c<|tn ?_);refine q8j Y (fun _=>?_) (fun h=>by cases h);(refine q0a ?_);refine Ls (q8g Y) ?_;refine L_halt Y Y (z2z Y) ?_;refine ⟨rfl,DecR.err hg1 (hS2.trans ?_)⟩;show Ce.chk (fun x=>decide (x < Ce.pr)) a r=_;unfold Ce.chk;rw [if_neg (by simpa using hv)]
theorem ext_err1 {l:List Nat} {x:Nat} (h:Ce.num 8 l=.err x):Ce.extC.p l=.err x:=by
 show ((Ce.num 8 l).bind _).bind _=_;rw [h];rfl
theorem ext_err2 {l r:List Nat} {a x:Nat} (h:Ce.num 8 l=.got a r) (h2:Ce.num 8 r=.err x):Ce.extC.p l=.err x:=by
 show ((Ce.num 8 l).bind _).bind _=_;rw [h];show ((Ce.num 8 r).bind _).bind _=_;rw [h2];rfl
theorem ext_got {l r r':List Nat} {a b:Nat} (h:Ce.num 8 l=.got a r) (h2:Ce.num 8 r=.got b r'):Ce.extC.p l=if decide (a < Ce.pr) && decide (b < Ce.pr) then .got (a,b) r' else .err 5:=by
 show ((Ce.num 8 l).bind _).bind _=_;rw [h];show ((Ce.num 8 r).bind _).bind _=_;rw [h2];rfl
theorem dext (N:Nat→Prop) (p:Nat) (l:List Nat) (w:World) (he:DecAt N p w l) :
   Calls Tryz.prog 139 #[.pointer (some ⟨p,0,none⟩)] w (DecR Ce.extC.p exR agV N p l w):=by
 refine q0j Tryz.func139 Y Tryz.ntmps139 Y ?_;(refine q0b<|q0a ?_);refine q0w ?_;intro g2 w2 B2 hg2 E2 hs2;have he2:=he.ext E2;have hpl:=he.lt;have ct:=dfixed N p 8 l w2 (by omega) he2;(refine q0c<|tn<|q0b<|q0a<|m_P Y ?_);cases hS:Ce.num 8 l with
 | err x =>
   rw [hS] at ct;refine q8l ct Y ?_;rintro e w3 ⟨hg3,rfl⟩;exact .inr ⟨_,rfl,rfl,DecR.err (q0e (E2.row _) hg3 fun q h=>.inl h) (ext_err1 hS)⟩
 | got a r =>
   rw [hS] at ct;refine L_fn ct Y ?_;rintro e w3 ⟨hg3,rfl,ha,e3⟩;refine ⟨_,rfl,?_⟩;have ct:=dfixed N p 8 r w3 (by omega) e3;have hg23:=q0e (E2.row (some p)) hg3 fun q h=>.inl h;have B3:=B2.grown hg3 (by intro h;cases h;omega);(refine m_P Y ?_);cases hS2:Ce.num 8 r with
   | err x =>
     rw [hS2] at ct;refine q8l ct Y ?_;rintro e w4 ⟨hg4,rfl⟩;exact .inr ⟨_,rfl,rfl,DecR.err (q0e hg23 hg4 fun q h=>.inl h) (ext_err2 hS hS2)⟩
   | got b r' =>
     rw [hS2] at ct;refine L_fn ct Y ?_;rintro e w4 ⟨hg4,rfl,hb,e4⟩;refine ⟨_,rfl,?_⟩;have hg24:=q0e hg23 hg4 fun q h=>.inl h;have B4:=B3.grown hg4 (by intro h;cases h;omega);refine Ls (X_mkEx Y Y) ?_;refine q0w ?_;intro g5 w5 B5 hg5 E5 hs5;refine q0t (l:=exC a b) Y Y Y q8q B5 Y ?_;intro w6 B6 hg6 hs6;have B4':=(B4.ext E5).grown hg6 (by intro h;cases h;have:=q2b B4;omega);have hs3:=hg3.size;have hs4:=hg4.size;have hg25:=q0e hg24 (E5.row (some p)) fun q h=>.inl h;have hg26:=q0e hg25 hg6 fun q h=>(by cases h;exact .inr (by omega));have e6:DecAt N p w6 r':=(e4.ext E5).grown hg6 (by intro h;cases h;omega) fun q h k=>(by cases h;have:=(he.n _ k).2;omega);have hx:=ext_got hS hS2;(refine q0c<|tn<|q0b<|q0b<|q0a<|Ls (q0g Y)<|Ls (X_ld Y B6 Y) ?_);refine L_fn (z0p a w6) Y ?_;rintro e w6 ⟨rfl,rfl⟩;refine ⟨_,rfl,?_⟩;by_cases hv:a < Ce.pr
     · rw [decide_eq_true hv];(refine Ls (q1o Y)<|m_B Y<|Lg2 Y Y Y (q0g Y)<|Lg2 Y Y Y (X_ld Y B6 Y) ?_);refine q1n Y Y Y ?_;refine L_fn (z0p b w6) Y ?_;rintro e w6 ⟨rfl,rfl⟩;refine ⟨_,rfl,?_⟩;by_cases hv2:b < Ce.pr
       · rw [decide_eq_true hv2];(refine Lg2 Y Y Y (q1o Y)<|Ls (q0k (v:=.bool _) Y Y)<|q0c<|tn<|q0h Y<|q0l<|tn<|q0b<|q0a<|Ls (q2i Y B6 Y) ?_);refine q0t (l:=exC a b) Y Y Y q8q B4' Y ?_;intro w7 B7 hg7 hs7;(refine q0c<|tn<|q0s ?_);refine q0z Y Y (Res.cellA inferInstance Y (B7.range (o:=0) (fun j u h=>by simpa using h)) Y .nil) ?_;refine DecR.got (a:=(a,b)) (q0e hg26 hg7 fun q h=>by cases h;exact .inr (by omega)) (hx.trans ?_) (exC a b) Y (e6.grown hg7 (by intro h;cases h;omega) fun q h k=>by cases h;have:=(he.n _ k).2;omega);rw [if_pos (by simp [hv,hv2])]
       · rw [decide_eq_false hv2];(refine Lg2 Y Y Y (q1o Y)<|Ls (q0k (v:=.bool _) Y Y)<|q0c<|tn<|q0r Y<|q0a ?_);refine Ls (q8g Y) ?_;refine L_halt Y Y (z2z Y) ?_;refine ⟨rfl,DecR.err hg26 (hx.trans ?_)⟩;rw [if_neg (by simp [hv2])]
     · rw [decide_eq_false hv];(refine Ls (q1o Y)<|m_B Y<|Lo2 Y Y Y Y<|Lo2 Y Y Y Y<|Lo2 Y Y Y Y<|Lo2 Y Y Y Y<|Ls (q0o (v:=.bool _) Y Y)<|q0c<|tn<|q0r Y<|q0a ?_);refine Ls (q8g Y) ?_;refine L_halt Y Y (z2z Y) ?_;refine ⟨rfl,DecR.err hg26 (hx.trans ?_)⟩;rw [if_neg (by simp [hv])]
end Go.Proofs.YtlcnkadkbcoadaaGreatDoor
