/- KG, KH, KI, KW, KM, KN, KX, KY, T, KU, VA, VB, N1, VC, F, VD, VE, VF, VG, VH, VJ, VI, VK. -/
import Derived.Test.YtbolofkandcnlaaGreatDoorQ1
import Derived.Maps.OwnSet
import Derived.Test.YtbolofkandcnlaaGreatDoorProg
namespace Go.Proofs.K
open Go.RowKit
variable {P:Program} {n:NN} {Q:Exit→Fr→World→Prop} {f:Fr} {w:World} {ops:Array Oper} {rest:List Oper}
def q6l (e size m:Nat) (w w':World):Prop:=∀ base0 v0 m0 xs0,m0≤m→w.ownsRow base0 e size v0 m0 xs0→w'.ownsRow base0 e size v0 m0 xs0
theorem q6l.of_ext {e size m:Nat} {w w':World} (E:Ext w w'):q6l e size m w w':=fun _ _ _ _ _ h=>q1p h E
theorem q6l.trans {e size m m':Nat} {a b c:World} (h:q6l e size m a b) (k:q6l e size m' b c) (hm:m≤m'):q6l e size m a c:=fun _ _ _ _ hl ho=>k _ _ _ _ (Nat.le_trans hl hm) (h _ _ _ _ hl ho)
theorem q6l.setRow {e size m g cap:Nat} {cur:Array Value} {zs:List Value} {w:World} (hg:w.heap[g]?=some (.cells cur e (0,0))) (_hc:cur.size=cap * size) (hz:zs.length=cur.size) (ht:zs.take (m * size)=cur.toList.take (m * size)):q6l e size m w (w.setRow g zs.toArray):=by
  intro base0 v0 m0 xs0 hm ho;refine ⟨ho.1,?_⟩;rcases ho.2 with h | ⟨g0,cap0,cur0,hv,hb,hc0,h1,h2,h3,h4⟩
  · exact .inl h
  · by_cases hgg:g0=g
    · subst hgg;rw [hg] at hc0;injection hc0 with hc0;injection hc0 with hc0 _ _;subst hc0;refine .inr ⟨g0,cap0,zs.toArray,hv,hb,setRow_heap w g0 _ _ _ _ hg,h1,h2,by simp [hz,h3],?_⟩;rw [← h4];have hmm:m0 * size≤m * size:=Nat.mul_le_mul_right _ hm;have e1:=congrArg (List.take (m0 * size)) ht;rwa [List.take_take,List.take_take,Nat.min_eq_left hmm] at e1
    · exact .inr ⟨g0,cap0,cur0,hv,hb,(setRow_other w g g0 _ hgg).trans hc0,h1,h2,h3,h4⟩
theorem q9g {lo hi size bytes m k base:Nat} {t ty e:TypeId} {z u v:Value} {xs ys:List Value} [ht:TSlice P t e] [hz:TInfo P e size bytes z]
    (hzs:z.cells.size=size) (hsz:0 < size) (hown:w.ownsRow base e size v m xs) (hr:Row w lo hi size u k ys) (h1:∀ q∈ys,q.oneCell'=true) (hb:(m+k) * bytes≤140737488355328) (hm:m+k≤9223372036854775807) (hbase:base≤w.heap.size) :
    ∃ v' w',(Builtin.append_ #[t,t] ty #[v,u]).run P w=.ok v' w'∧w'.ownsRow base e size v' (m+k) (xs++ys)∧w.grownBy w' v.ownBlock∧(v'.ownBlock=v.ownBlock∨v'.ownBlock=some w.heap.size)∧q6l e size m w w':=by
  obtain ⟨v',w',hrun,ho,hg,hbb⟩:=z2r (P:=P) (ty:=ty) (t:=t) hzs hsz hown hr h1 hb hm hbase;refine ⟨v',w',hrun,ho,hg,hbb,?_⟩;obtain ⟨i,hi',h0,h2,h3⟩:=info_parts hz.h;rcases hown.2 with ⟨rfl,rfl⟩ | ⟨g,cap,cur,rfl,hb0,hcur,hnc,hcm,hcs,htk⟩
  · exact q6l.of_ext hg
  obtain ⟨hl,A,c,rfl,hc,hcm',hn⟩:=hr;have room:∀ ad:Addr,m+k≤cap→(∀ j u,ys[j]?=some u→w.cell? (ad.add j)=some u)→A=some ad→q6l e size m w w':=by
    intro ad hle hnews hA;subst hA;have hfit:m * i.size+ys.length≤cur.size:=(by rw [h2,hl,hcs,← Nat.add_mul];exact Nat.mul_le_mul_right _ hle);have:=run_append_room (P:=P) w t ty e i ht.h hi' g m cap cur hcur ad k c ys (by rw [h2];exact hl) hnews h1 hle hfit;rw [hrun] at this;injection this with _ hw';subst hw';refine q6l.setRow hcur hcs ?_ ?_
    · simp only [List.length_append,List.length_take,List.length_drop,Array.length_toList];omega
    · rw [h2] at hfit ⊢;rw [List.append_assoc,List.take_append_of_le_length (by simp;omega),List.take_take,Nat.min_self]
  rcases Nat.eq_zero_or_pos k with hk | hk
  · subst hk;obtain rfl:ys=[]:=List.eq_nil_of_length_eq_zero (by simpa using hl);rcases A with _ | ad
    · have:=q8a (P:=P) w base t ty e i size ht.h hi' _ m xs hown c;rw [hrun] at this;injection this with _ hw';subst hw';exact q6l.of_ext (Ext.refl _)
    · exact room ad (by omega) (by simp) rfl
  · obtain ⟨b,o,rfl,hb1,hb2,hcell⟩:=hn hk;rcases Nat.lt_or_ge cap (m+k) with hlt | hge
    · have hxs:∀ j u,xs[j]?=some u→w.cell? ((⟨g,0,none⟩:Addr).add j)=some u:=fun j u hu=>by
        have:=(Row.of_own hown);obtain ⟨_,A',c',he,_,_,hn'⟩:=this;injection he with e1 _ _;by_cases hm0:0 < m
        · obtain ⟨b',o',hA',_,_,hr'⟩:=hn' hm0;rw [hA'] at e1;injection e1 with e1;have:=hr' j u hu;rw [Addr.add_mid];cases e1
          exact this
        · have h00:=hown.1;obtain rfl:m=0:=(by omega);have:xs=[]:=List.eq_nil_of_length_eq_zero (by simpa using h00);rw [this] at hu;simp at hu
      have:=run_append_grow (P:=P) w t ty e i z ht.h hi' h0 ⟨g,0,none⟩ m cap xs (by rw [h2];exact hown.1) hxs ⟨b,o,none⟩ k c ys (by rw [h2];exact hl) (fun j u hu=>by rw [Addr.add_mid];exact hcell j u hu) hlt (by omega) (growslice_fits (by omega) (by rw [h3];exact hb));rw [hrun] at this;injection this with _ hw';subst hw';exact q6l.of_ext ⟨rfl,rfl,rfl,by simp,fun j hj _=>heap_alloc_old w.drew _ hj⟩
    · exact room _ hge (fun j u hu=>by rw [Addr.add_mid];exact hcell j u hu) rfl
section
variable {d:Tmp} {t ty e:TypeId} {pos:String} {af:Array Edge} {x y:Operand}
theorem L_appendK {lo hi size bytes m k base:Nat} {u v:Value} {xs ys:List Value} [ht:TSlice P ty e] [hz:TElem P e size bytes]
    (hx:ev n f x=v) (hy:ev n f y=u) (hown:w.ownsRow base e size v m xs) (hr:Row w lo hi size u k ys) (h1:∀ q∈ys,q.oneCell'=true) (hb:(m+k) * bytes≤140737488355328) (hm:m+k≤9223372036854775807) (hbase:base≤w.heap.size)
    (h:∀ v' w',w'.ownsRow base e size v' (m+k) (xs++ys)→w.grownBy w' v.ownBlock→(v'.ownBlock=v.ownBlock∨v'.ownBlock=some w.heap.size)→q6l e size m w w'→L P n ops Q rest (upd f d v') w') :
    L P n ops Q (⟨some d,.call ⟨.builtin .append,#[x,y],#[ty,ty]⟩,t,pos,af,none⟩ :: rest) f w:=by
  obtain ⟨z,h0,hzs,hsz⟩:=hz.h;haveI:TInfo P e size bytes z:=⟨h0⟩;obtain ⟨v',w',hX,h2,h3,h4,h5⟩:=q9g (P:=P) (ty:=t) (t:=ty) hzs hsz hown hr h1 hb hm hbase;exact Ls (z0f hx hy hX) (h v' w' h2 h3 h4 h5)
end
theorem q5k {w w':World} {base e size m:Nat} {v:Value} {xs:List Value} {row:Option Nat} (h:w.ownsRow base e size v m xs) (hg:w.grownBy w' row) (hr:∀ g,v.ownBlock=some g→row ≠ some g):w'.ownsRow base e size v m xs:=by
  refine ⟨h.1,?_⟩;rcases h.2 with hn | ⟨g,cap,cur,hv,hb,hc,rest⟩
  · exact .inl hn
  · have hlt:g < w.heap.size:=(Array.getElem?_eq_some_iff.1 hc).1;exact .inr ⟨g,cap,cur,hv,hb,(hg.block g hlt (fun e=>hr g (by rw [hv];rfl) e.symm)).trans hc,rest⟩
def RA (k0:Nat) (bl:Option Nat) (e size m:Nat):Nat→World→World→Prop:=fun i a b=>Ext a b∨(i=k0∧a.grownBy b bl∧q6l e size m a b)
instance {k0:Nat} {bl:Option Nat} {e size m:Nat}:ExtR (RA k0 bl e size m):=⟨fun _ _ _ h=>.inl h⟩
theorem RA.refl (k0:Nat) (bl:Option Nat) (e size m:Nat) (i:Nat) (w:World):RA k0 bl e size m i w w:=.inl (Ext.refl w)
theorem RA.keeps {k0:Nat} {bl:Option Nat} {e size m i:Nat} {a b:World} (h:RA k0 bl e size m i a b):q6l e size m a b:=h.elim q6l.of_ext fun h=>h.2.2
theorem RA.grown {k0:Nat} {bl:Option Nat} {e size m i:Nat} {a b:World} (h:RA k0 bl e size m i a b):a.grownBy b bl:=h.elim (fun E=>E.row _) fun h=>h.2.1
theorem RA.other {k0:Nat} {bl:Option Nat} {e size m i:Nat} {a b:World} (h:RA k0 bl e size m i a b) (hi:i ≠ k0):Ext a b:=h.elim id fun h=>absurd h.1 hi
structure AA (w0:World) (bl:Option Nat) (base e size:Nat) (v:Value) (m:Nat) (xs:List Value) (w:World):Prop where
  g:w0.grownBy w bl
  o:w.ownsRow base e size v m xs
theorem AA.new {w0:World} {base e size m:Nat} {v:Value} {xs:List Value} (h:w0.ownsRow base e size v m xs):AA w0 v.ownBlock base e size v m xs w0.drew:=⟨(Ext.drew w0).row _,q1p h (Ext.drew w0)⟩
theorem AA.step {w0:World} {k0 base e size m:Nat} {bl:Option Nat} {v:Value} {xs:List Value}:∀ i a b,RA k0 bl e size m i a b→AA w0 bl base e size v m xs a→AA w0 bl base e size v m xs b :=
  fun _ _ _ h ⟨h1,h2⟩=>⟨q0f h1 h.grown (fun _ h=>.inl h),h.keeps _ _ _ _ (Nat.le_refl _) h2⟩
section
variable {R:Nat→World→World→Prop} {A:Nat→World→Prop} {Fin:List Oper→(Rho→Fr)→(Rho→Nat→World→Prop)→Prop} {k:Nat} {E:List Ent} {g:Rho→Fr} {H:Rho→Nat→World→Prop} {d:Tmp} {t:TypeId} {pos:String} {af:Array Edge}
theorem DW_fr {F:Value→World→Prop} {id:FuncId} [TFun P id] {l:List Operand} {vl:Rho→List Value} {tys:Array TypeId} (ha:∀ r,l.map (ev n (g r))=vl r)
    (hc:∀ r w,A k w→(∀ j,td ops k j=true→H r j w)→Calls P id (vl r).toArray w fun e w'=>∃ v,e=.returned v∧R k w w'∧F v w') (hF:∀ i v w w',i ≠ k→td ops k i=false→R i w w'→F v w→F v w')
    (hr:DW R P n ops A Fin rest (k+1) E (fun r=>upd (g r) d (r k)) (fun r j w=>bif Nat.beq j k then F (r k) w else H r j w)):DW R P n ops A Fin (⟨some d,.call ⟨.value (.func id),l.toArray,tys⟩,t,pos,af,none⟩ :: rest) k (.op (fun r w=>F (r k) w) :: E) g H :=
  .op (fun r w hA hH=>⟨q5u rfl,q8t (X_fn (ha r)) (hc r w hA hH) fun e w' ⟨v,he,hE,hv⟩=>⟨v,he,hE,by rw [q5y];exact hv⟩⟩) (fun i r w w' h1 h2 hE h=>hF i _ _ _ h1 h2 hE h) hr
end
end Go.Proofs.K
namespace Go.Proofs.K
open Go.RowKit Go.Maps Go.MapKept
variable {P:Program} {n:NN} {Q:Exit→Fr→World→Prop} {f:Fr} {w:World} {ops:Array Oper} {rest:List Oper}
theorem z2o {x:Nat} (hx:x < 9223372036854775808):(Lit.int .i64 (x:Int)).wf=true:=wf_nat .i64 9223372036854775808 (by decide) hx
section
variable {d:Tmp} {t ty kt e:TypeId} {pos:String} {af:Array Edge} {x y z:Operand}
end
def RN (k0:Nat) (w0:World) (T:TypeId) (z l:List Value):Nat→World→World→Prop:=fun i a b=>Ext a b∨(i=k0∧∃ q,w0.heap.size≤q∧(Blk a q T z∨Blk a q T l)∧a.grownBy b (some q)∧Blk b q T l)
section
variable {k0:Nat} {w0:World} {T:TypeId} {z l:List Value}
instance:ExtR (RN k0 w0 T z l):=⟨fun _ _ _ h=>.inl h⟩
theorem RN.refl (i:Nat) (w:World):RN k0 w0 T z l i w w:=.inl (Ext.refl w)
theorem RN.other {i:Nat} {a b:World} (h:RN k0 w0 T z l i a b) (hi:i ≠ k0):Ext a b:=h.elim id fun h=>absurd h.1 hi
theorem RN.step:∀ i a b,RN k0 w0 T z l i a b→Ext w0 a→Ext w0 b:=fun _ _ _ h E=>h.elim (fun e=>E.trans e) fun ⟨_,q,hq,_,hg,_⟩=>E.then hg (fun g hg=>by cases hg;exact hq)
def NewZ (w0:World) (T:TypeId) (z l:List Value) (u:Value) (w:World):Prop:=∃ q,u=.pointer (some ⟨q,0,none⟩)∧w0.heap.size≤q∧(Blk w q T z∨Blk w q T l)
theorem NewZ.step {i:Nat} {u:Value} {a b:World} (h:RN k0 w0 T z l i a b) (hn:NewZ w0 T z l u a):NewZ w0 T z l u b:=by
  obtain ⟨q,h1,h2,h3⟩:=hn;refine ⟨q,h1,h2,?_⟩;rcases h with e | ⟨_,q',hq,hz,hg,hb⟩
  · exact h3.imp (fun B=>B.ext e) (fun B=>B.ext e)
  · by_cases hqq:q=q'
    · subst hqq;exact .inr hb
    · exact h3.imp (fun B=>B.grown hg (fun e=>hqq (by injection e with e;exact e.symm))) (fun B=>B.grown hg (fun e=>hqq (by injection e with e;exact e.symm)))
variable {Fin:List Oper→(Rho→Fr)→(Rho→Nat→World→Prop)→Prop} {k:Nat} {E:List Ent} {g:Rho→Fr} {H:Rho→Nat→World→Prop} {d:Tmp} {t ty:TypeId} {pos:String} {af:Array Edge} {x y:Operand}
theorem alloc_new {w:World} {z':List Value} [hz:TZero P ty z'] {f:Fr} (h0:w0.heap.size≤w.heap.size):∃ v w',X P n ⟨some d,.alloc ty,t,pos,af,none⟩ f w=.ok (.value v) w'∧Ext w w'∧NewF w0 ty z' v w':=by
  obtain ⟨v,hv,hc⟩:=hz.h;cases hq:P.info? ty with
  | none=>simp [hq] at hv
  | some i =>
    have h0':i.zero=some v:=(by simpa [hq] using hv);haveI:TInfo P ty i.size i.bytes v:=⟨by simp [hq,h0']⟩;exact ⟨_,_,X_alloc,q1m _ _,w.heap.size,rfl,h0,by rw [hc];exact Blk.new _ _ _⟩
theorem DW_allocZ [hz:TZero P T z]
    (hr:DW (RN k0 w0 T z l) P n ops (fun _=>Ext w0) Fin rest (k+1) E (fun r=>upd (g r) d (r k)) (fun r j w=>bif Nat.beq j k then NewZ w0 T z l (r k) w else H r j w)) :
    DW (RN k0 w0 T z l) P n ops (fun _=>Ext w0) Fin (⟨some d,.alloc T,t,pos,af,none⟩ :: rest) k (.op (fun r w=>NewZ w0 T z l (r k) w) :: E) g H :=
  DW_d (F:=fun _ u w=>NewZ w0 T z l u w) (fun r w hA hH=>by
    obtain ⟨v,w',h1,h2,q,h3,h4,h5⟩:=alloc_new (P:=P) (n:=n) (d:=d) (t:=t) (pos:=pos) (af:=af) (ty:=T) (z':=z) (f:=g r) hA.size
    exact ⟨v,w',h1,h2,q,h3,h4,.inl h5⟩)
    (fun _ _ u w w' _ _ E h=>NewZ.step E h) (fun _ _=>rfl) hr
theorem DW_storeN {size kx:Nat} [TAgg P ty size] (hx:∀ r,ev n (g r) x=r kx) (hy:∀ r,ev n (g r) y=.agg l.toArray) (hzl:z.length=size) (hl:l.length=size) (h1:∀ v∈l,v.oneCell'=true) (hkx:kx ≠ k0)
    (hz:∀ r w,Ext w0 w→(∀ j,td ops k0 j=true→H r j w)→NewZ w0 T z l (r kx) w)
    (hr:DW (RN k0 w0 T z l) P n ops (fun _=>Ext w0) Fin rest (k0+1) E g (fun r j w=>bif Nat.beq j k0 then (∃ q,r kx=.pointer (some ⟨q,0,none⟩)∧w0.heap.size≤q∧Blk w q T l) else H r j w)) :
    DW (RN k0 w0 T z l) P n ops (fun _=>Ext w0) Fin (⟨none,.store ty x y,t,pos,af,none⟩ :: rest) k0 (.op (fun r w=>∃ q,r kx=.pointer (some ⟨q,0,none⟩)∧w0.heap.size≤q∧Blk w q T l) :: E) g H:=by
  refine .op (fun r w hA hH=>⟨rfl,?_⟩) (fun i r w w' hi _ hE ⟨q,h1,h2,h3⟩=>⟨q,h1,h2,h3.ext (hE.other hi)⟩) hr;obtain ⟨q,e,hq,hB⟩:=hz r w hA hH;have key:∀ c:List Value,c.length=size→Blk w q T c→(Blk w q T z∨Blk w q T l)→Run P n ⟨none,.store ty x y,t,pos,af,none⟩ (g r) w fun v w'=>RN k0 w0 T z l k0 w w'∧∃ q,rset r k0 v kx=.pointer (some ⟨q,0,none⟩)∧w0.heap.size≤q∧Blk w' q T l:=by
    intro c hc B hB;have hX:=z3y (P:=P) (n:=n) (f:=g r) (w:=w) (d:=none) (t:=t) (pos:=pos) (af:=af) (g:=none) (ty:=ty) ((hx r).trans e) (hy r) hl h1 B (o:=0) (by omega);have hcs:c.take 0++l++c.drop (0+size)=l:=(by rw [List.drop_eq_nil_of_le (by omega)];simp);rw [hcs] at hX;have B':=B.setRow l;exact z4e hX ⟨.inr ⟨rfl,q,hq,hB,q5m _ _ _,B'⟩,q,by rw [z2s _ _ hkx];exact e,hq,B'⟩
  exact hB.elim (fun B=>key z hzl B (.inl B)) (fun B=>key l hl B (.inr B))
end
end Go.Proofs.K
namespace Go.Proofs.K
open Go.RowKit
variable {P:Program} {n:NN} {Q:Exit→Fr→World→Prop} {f:Fr} {w:World} {ops:Array Oper} {rest:List Oper}
theorem L_onZ {o:Oper} (hw:q3x n ops f o=true) (h:RunZ P n o f w (fun c w'=>Q (.panic c) f w') fun v w'=>L P n ops Q rest (updo f o.dst v) w'):L P n ops Q (o :: rest) f w :=
  ⟨fun _=>h,fun hw'=>by rw [hw] at hw';cases hw'⟩
theorem q2h {d:Option Tmp} {op:Op} {t:TypeId} {pos:String} {af:Array Edge} {j:Nat} {want:Bool} {t':Tmp} (hd:(ops[j]?).bind (·.dst)=some t') (hn:Nat.blt t' n.k=true) (hv:f t'=.bool want)
    (h:L P n ops Q (⟨d,op,t,pos,af,none⟩ :: rest) f w):L P n ops Q (⟨d,op,t,pos,af,some (j,want)⟩ :: rest) f w :=
  L_onZ ((q7e rfl hd hn hv).trans (by cases want <;> rfl)) (h.1 (q5u rfl))
section
theorem wants_un {o:Oper} {j:Nat} {want:Bool} {t':Tmp} (hg:o.guard=some (j,want)) (hd:(ops[j]?).bind (·.dst)=some t') (hn:Nat.blt t' n.k=true) (hv:f t'=undef):q3x n ops f o=false:=by
  rw [z1p hg];have hlt:t' < n.k:=by rwa [Nat.blt_eq] at hn
  have:yielded ops (arr n f) j=none:=by
    unfold yielded;rw [hd];simp only [Option.bind_some,arr_get?,hlt,if_true,hv];rfl
  rw [this];rfl
theorem Lo3 {d:Option Tmp} {op:Op} {t:TypeId} {pos:String} {af:Array Edge} {j:Nat} {want:Bool} {t':Tmp} (hd:(ops[j]?).bind (·.dst)=some t') (hn:Nat.blt t' n.k=true) (hv:f t'=undef) (h:L P n ops Q rest (updo f d undef) w) :
    L P n ops Q (⟨d,op,t,pos,af,some (j,want)⟩ :: rest) f w:=Lo (wants_un rfl hd hn hv) h
variable {d:Option Tmp} {t ty ty':TypeId} {pos:String} {af:Array Edge} {g:Option (Nat × Bool)} {x y:Operand}
theorem X_neqK [h:TEq P ty] {D D':Nat} {xs ys:List Value} {la lb:List Lit} (hx:ev n f x=.agg xs.toArray) (hy:ev n f y=.agg ys.toArray) (lx:xs.length=P.cellsOf ty) (ly:ys.length=P.cellsOf ty)
    (kx:P.keyLits D ty xs=some la) (ky:P.keyLits D' ty ys=some lb) {b:Bool} (hb:b=true↔la ≠ lb) :
    X P n ⟨d,.binOp .neq ty x y ty,t,pos,af,g⟩ f w=.ok (.value (.bool b)) w:=by
  have hf:∀ zs:List Value,zs.length=P.cellsOf ty→(Value.agg zs.toArray).formed P ty=true:=by
    intro zs hz;rcases h.s with ⟨fs,e⟩ | ⟨m,e',e⟩ <;> simp [Value.formed,e,hz]
  obtain ⟨r,hr,hiff⟩:=run_equalIn_deep 9996 4 ty h.k w D D' (.agg xs.toArray) (.agg ys.toArray) la lb (hf _ lx) (hf _ ly) (by simpa [Value.cells] using kx) (by simpa [Value.cells] using ky);have he:(!r)=b:=by
    revert hb hiff;cases r <;> cases b <;> simp
  have hg:=run_eqGuard_agg (P:=P) (w:=w) .neq ty x y xs.toArray ys.toArray h.g;have hs:=run_neq_struct (P:=P) (w:=w) ty xs.toArray ys.toArray;rw [hr] at hs;simp only [X,execOp,hx,hy];simp [hg,hs,Result.andThen,he]
end
section
variable {R:Nat→World→World→Prop} {A:Nat→World→Prop} {Fin:List Oper→(Rho→Fr)→(Rho→Nat→World→Prop)→Prop} {k:Nat} {E:List Ent} {g:Rho→Fr} {H:Rho→Nat→World→Prop} {d:Tmp} {op:Op} {t:TypeId} {pos:String} {af:Array Edge}
theorem q1f [ExtR R] {V:Rho→Value} {j:Nat} {want:Bool} {t':Tmp} (hd:(ops[j]?).bind (·.dst)=some t') (hn:Nat.blt t' n.k=true) (hv:∀ r,g r t'=.bool want)
    (hX:∀ r w,A k w→(∀ j,td ops k j=true→H r j w)→X P n ⟨some d,op,t,pos,af,none⟩ (g r) w=.ok (.value (V r)) w)
    (hr:DW R P n ops A Fin rest (k+1) E (fun r=>upd (g r) d (V r)) H):DW R P n ops A Fin (⟨some d,op,t,pos,af,some (j,want)⟩ :: rest) k (.st V :: E) g H :=
  q2k (fun r=>(q7e rfl hd hn (hv r)).trans (by cases want <;> rfl)) hX hr
theorem q0x [ExtR R] {o:Option Tmp} {j:Nat} {want b:Bool} {t':Tmp} (hd:(ops[j]?).bind (·.dst)=some t') (hn:Nat.blt t' n.k=true) (hv:∀ r,g r t'=.bool b) (hb:(b == want)=false)
    (hr:DW R P n ops A Fin rest (k+1) E (fun r=>updo (g r) o undef) H):DW R P n ops A Fin (⟨o,op,t,pos,af,some (j,want)⟩ :: rest) k (.st (fun _=>undef) :: E) g H :=
  DW_off (fun r=>by rw [q7e rfl hd hn (hv r)];exact hb) hr
theorem DW_fn2 [ExtR R] {V:Rho→Value} {id:FuncId} [TFun P id] {l:List Operand} {vl:Rho→List Value} {tys:Array TypeId} {j:Nat} {want:Bool} {t':Tmp} (hd:(ops[j]?).bind (·.dst)=some t') (hn:Nat.blt t' n.k=true) (hv:∀ r,g r t'=.bool want)
    (ha:∀ r,l.map (ev n (g r))=vl r) (hc:∀ r w,A k w→(∀ j,td ops k j=true→H r j w)→Calls P id (vl r).toArray w fun e w'=>e=.returned (V r)∧Ext w w')
    (hr:DW R P n ops A Fin rest (k+1) E (fun r=>upd (g r) d (V r)) H):DW R P n ops A Fin (⟨some d,.call ⟨.value (.func id),l.toArray,tys⟩,t,pos,af,some (j,want)⟩ :: rest) k (.st V :: E) g H :=
  q4r (fun r=>(q7e rfl hd hn (hv r)).trans (by cases want <;> rfl)) ha hc hr
theorem d_ng {d:Option Tmp} (h:DW R P n ops A Fin (⟨d,op,t,pos,af,none⟩ :: rest) k E g H):DW R P n ops A Fin (⟨d,op,t,pos,af,none⟩ :: rest) k E g H:=h
theorem d_gd {d:Option Tmp} {gd:Nat × Bool} (h:DW R P n ops A Fin (⟨d,op,t,pos,af,some gd⟩ :: rest) k E g H):DW R P n ops A Fin (⟨d,op,t,pos,af,some gd⟩ :: rest) k E g H:=h
end
section
variable {d:Option Tmp} {t ty:TypeId} {pos:String} {af:Array Edge} {g:Option (Nat × Bool)} {x:Operand}
end
section
variable {d:Option Tmp} {t ty:TypeId} {pos:String} {af:Array Edge} {g:Option (Nat × Bool)} {x:Operand}
end
end Go.Proofs.K
namespace Go.Proofs.K
open Go.RowKit Go.Shelf
variable {P:Program} {n:NN} {Q:Exit→Fr→World→Prop} {f:Fr} {w:World} {ops:Array Oper} {rest:List Oper}
section
variable {d:Tmp} {t ty e:TypeId} {pos:String} {af:Array Edge} {x:Operand}
theorem L_litA {z l:List Value} [TSlice P ty e] [TZero P e z] (hx:ev n f x=.agg l.toArray) (hl:l.length=z.length) (hz:Nat.ble (1 * z.length) 65536=true)
    (h:∀ u w',Row w' w.heap.size (w.heap.size+1) z.length u 1 l→Ext w w'→w'.heap.size=w.heap.size+1→L P n ops Q rest (upd f d u) w') :
    L P n ops Q (⟨some d,.buildSlice ty 1 #[(0,x)],t,pos,af,none⟩ :: rest) f w :=
  Ls (q6g (r:=[(0,x)]) (zs':=[l]) (cs:=l) (Parts.cons (c:=l) (z:=z) hx rfl rfl hl (Parts.nil _)) hz (by simp)) (h _ _ (Row.lit w e z.length 1 l (by omega) (by unfold maxLen;omega)) (q1m _ _) (by simp))
end
end Go.Proofs.K
namespace Go.Proofs.K
open Go.RowKit Go.Maps Go.MapKept
variable {P:Program} {n:NN} {Q:Exit→Fr→World→Prop} {f:Fr} {w:World} {ops:Array Oper} {rest:List Oper}
def heldR:Value→Option (DataW Value × List MemPlace):=fun v=>some (.held v,[])
def MapI (P:Program) (kt:TypeId) (w:World) (b m:Nat) (M:Int→Option Value):Prop :=
  ∃ D,w.ownsMap (H:=Value) P kt heldR b m D∧∀ x:Int,Maps.has D (.int .i64 x)=(M x).isSome∧∀ z,D.atKey (.int .i64 x) (.held z)=.held ((M x).getD z)
theorem MapI.kept {kt b m:Nat} {M:Int→Option Value} {w w':World} {row:Option Nat} (h:MapI P kt w b m M) (hg:w.grownBy w' row) (hne:some b ≠ row):MapI P kt w' b m M:=by
  obtain ⟨D,h2,h3⟩:=h;exact ⟨D,h2.kept hg hne,h3⟩
theorem MapI.ext {kt b m:Nat} {M:Int→Option Value} {w w':World} (h:MapI P kt w b m M) (E:Ext w w'):MapI P kt w' b m M:=h.kept E (by simp)
theorem MapI.lt {kt b m:Nat} {M:Int→Option Value} {w:World} (h:MapI P kt w b m M):b < w.heap.size:=by
  obtain ⟨D,h2,h3⟩:=h;exact h2.lt
section
variable {d:Tmp} {t ty kt e:TypeId} {pos:String} {af:Array Edge} {x y z:Operand}
theorem L_makeMap (h:∀ w',MapI P kt w' w.heap.size 0 (fun _=>none)→Ext w w'→w'.heap.size=w.heap.size+1→L P n ops Q rest (upd f d (.map (some w.heap.size))) w') :
    L P n ops Q (⟨some d,.makeMap ty none,t,pos,af,none⟩ :: rest) f w:=by
  refine Ls (v:=.map (some w.heap.size)) (w':=w.alloc (.map #[] 0)) ?_ (h _ ⟨.map [],World.ownsMap_made w P kt heldR,fun x=>⟨by simp [has_eq],fun z=>by exact atKey_of_not_has (by simp [has_eq]) _⟩⟩ (q1m _ _) (by simp));simp [X,execOp,run_makeMap]
theorem MapI.look {b m:Nat} {M:Int→Option Value} {a:Int} {zv:Value} [hm:TMap P ty kt e] [hk:TInt P kt .i64] (hz:(P.info? e).bind (·.zero)=some zv) (hs:MapI P kt w b m M) (ha:(Lit.int .i64 a).wf=true) :
    (Instr.lookup ty (.map (some b)) (.int .i64 a) true).run P w=.ok (.tuple #[(M a).getD zv,.bool (M a).isSome]) w∧(Instr.lookup ty (.map (some b)) (.int .i64 a) false).run P w=.ok ((M a).getD zv) w:=by
  obtain ⟨D,h2,h3⟩:=hs;have hzv:(zeroValue e).run P w=.ok zv w:=by
    cases hq:P.info? e with
    | none=>rw [hq] at hz;cases hz
    | some i=>rw [hq] at hz;simp at hz;simp [zeroValue,typeInfo,hq,hz]
  constructor
  · obtain ⟨v,ps,hrun,hv⟩:=h2.look_ok (int_keyed hk.h) hm.h hzv (zd:=.held zv) (zp:=[]) rfl (keyOf_int_mk hk.h ha);rw [(h3 a).2] at hv;injection hv with hv;injection hv with hv _;injection hv with hv;rw [(h3 a).1,hv] at hrun;exact hrun
  · obtain ⟨v,ps,hrun,hv⟩:=h2.lookup (int_keyed hk.h) hm.h hzv (zd:=.held zv) (zp:=[]) rfl (keyOf_int_mk hk.h ha);rw [(h3 a).2] at hv;injection hv with hv;injection hv with hv _;injection hv with hv;rw [hv] at hrun;exact hrun
theorem X_look2 {dd:Option Tmp} {g:Option (Nat × Bool)} [hm:TMap P ty kt e] [hk:TInt P kt .i64] {zv v:Value} {q:Bool} {b m:Nat} {M:Int→Option Value} {a:Int} (hz:(P.info? e).bind (·.zero)=some zv) (hx:ev n f x=.map (some b)) (hy:ev n f y=.int .i64 a) (hs:MapI P kt w b m M)
    (ha:(Lit.int .i64 a).wf=true) (hv:(M a).getD zv=v) (hq:(M a).isSome=q) :
    X P n ⟨dd,.lookup ty x y true,t,pos,af,g⟩ f w=.ok (.value (.tuple [v,.bool q].toArray)) w:=by
  have h:=(hs.look (ty:=ty) (e:=e) hz ha).1;rw [hv,hq] at h;simp [X,execOp,hx,hy,h,Result.andThen]
theorem X_look1 {dd:Option Tmp} {g:Option (Nat × Bool)} [hm:TMap P ty kt e] [hk:TInt P kt .i64] {zv v:Value} {b m:Nat} {M:Int→Option Value} {a:Int} (hz:(P.info? e).bind (·.zero)=some zv) (hx:ev n f x=.map (some b)) (hy:ev n f y=.int .i64 a) (hs:MapI P kt w b m M)
    (ha:(Lit.int .i64 a).wf=true) (hv:(M a).getD zv=v) :
    X P n ⟨dd,.lookup ty x y false,t,pos,af,g⟩ f w=.ok (.value v) w:=by
  have h:=(hs.look (ty:=ty) (e:=e) hz ha).2;rw [hv] at h;simp [X,execOp,hx,hy,h,Result.andThen]
theorem q4c [hm:TMap P ty kt e] [hk:TInt P kt .i64] {b m:Nat} {M:Int→Option Value} {a:Int} {v:Value} (hx:ev n f x=.map (some b)) (hy:ev n f y=.int .i64 a) (hv:ev n f z=v) (hs:MapI P kt w b m M) (ha:(Lit.int .i64 a).wf=true) (hl:m < maxLen)
    (h:∀ w',MapI P kt w' b (m+1) (fun i=>if i=a then some v else M i)→w.grownBy w' (some b)→w'.heap.size=w.heap.size→L P n ops Q rest f w') :
    L P n ops Q (⟨none,.mapUpdate ty x y z,t,pos,af,none⟩ :: rest) f w:=by
  obtain ⟨D,h2,h3⟩:=hs;have hD:IsMap D:=h2.isMap;obtain ⟨w',hrun,h4,h5⟩:=h2.store (int_keyed hk.h) hm.h hl (keyOf_int_mk hk.h ha) (d:=.held v) (ps:=[]) (val:=v) rfl;refine Ln (w':=w') ?_ (h w' ⟨_,h4,fun i=>?_⟩ h5.grown ?_)
  · simp [X,execOp,hx,hy,hv,hrun,Result.andThen]
  · by_cases hya:i=a
    · subst hya;simp only [if_true];exact ⟨has_put_same hD (by exact trivial) _,fun z=>atKey_put_same hD (by exact trivial) _ _⟩
    · simp only [hya,if_false];have hne:Lit.int .i64 i ≠ Lit.int .i64 a:=(by intro e;injection e with _ e;exact hya e);exact ⟨(has_put_other hne _).trans (h3 i).1,fun z=>(atKey_put_other hne _ _).trans ((h3 i).2 z)⟩
  · obtain ⟨es,clock,es',clock',hb,rfl⟩:=h5;simp [Go.ChangeMaps.setBlock]
theorem z0i {g:Option (Nat × Bool)} {dd:Option Tmp} (h:L P n ops Q (⟨dd,.mapUpdate ty x y z,t,pos,af,g⟩ :: rest) f w):L P n ops Q (⟨dd,.insert ty x y z,t,pos,af,g⟩ :: rest) f w:=h
end
end Go.Proofs.K
namespace Go.Proofs.K
open Go.RowKit
variable {P:Program} {n:NN} {Q:Exit→Fr→World→Prop} {f:Fr} {w:World} {ops:Array Oper} {rest:List Oper}
def RG (k0 g:Nat):Nat→World→World→Prop:=fun i a b=>Ext a b∨(i=k0∧a.grownBy b (some g))
instance {k0 g:Nat}:ExtR (RG k0 g):=⟨fun _ _ _ h=>.inl h⟩
theorem RG.grown {k0 g i:Nat} {a b:World} (h:RG k0 g i a b):a.grownBy b (some g):=h.elim (fun e=>e.row _) (fun h=>h.2)
theorem RG.other {k0 g i:Nat} {a b:World} (h:RG k0 g i a b) (hi:i ≠ k0):Ext a b:=h.elim id fun h=>absurd h.1 hi
structure AG (ops:Array Oper) (k0 g:Nat) (Pre:World→Prop) (w0:World) (k:Nat) (w:World):Prop where
  g:w0.grownBy w (some g)
  pre:k=k0∨td ops k0 k=true→Pre w
theorem W_dagG {id:Nat} [TMixed P] {l:List Oper} (k0 g:Nat) (Pre:World→Prop) (m:Nat) (hok:dagOk l.toArray m=true) (h0:Pre w.drew) (hPre:∀ a b,Ext a b→Pre a→Pre b)
    {E:List Ent} {T:List Oper} {G:Rho→Fr} {HF:Rho→Nat→World→Prop}
    (hw:DW (RG k0 g) P n l.toArray (AG l.toArray k0 g Pre w) (fun t g' H'=>t=T∧g'=G∧H'=HF) l 0 E (fun _=>f) (fun _ _ _=>True)) (hm:E.length=m) (hins:q7s l.toArray E E 0)
    (hfin:∀ r w',w.grownBy w' (some g)→(∀ j,HF r j w')→L P n l.toArray Q T (G r) w'):W P n (.region id l.toArray true) Q f w:=by
  refine W_dagL m (fun L w'=>w.grownBy w' (some g)∧(L k0=false→Pre w')) (AG l.toArray k0 g Pre w) (fun w'=>w.grownBy w' (some g)) hm hok hins (fun _ w=>.inl (Ext.refl w)) ?_ ?_ ?_ ?_ (hw.imp fun t g' H' ⟨e1,e2,e3⟩=>by subst e1;subst e2;subst e3;exact hfin)
  · exact fun L hL=>⟨(Ext.drew w).row _,fun _=>h0⟩
  · rintro L k w' hk hLk hin hout ⟨hg,h2⟩;refine ⟨hg,fun h=>?_⟩;rcases h with rfl | h
    · exact h2 hLk
    · exact h2 (hout _ h)
  · rintro L k w' w'' hk hLk hin hout hr ⟨hg,h2⟩;refine ⟨q0f hg hr.grown (fun g h=>.inl h),fun h=>?_⟩;unfold Done1 at h;by_cases hkk:k0=k
    · rw [if_pos hkk] at h;cases h
    · rw [if_neg hkk] at h;exact hPre _ _ (hr.other fun e=>hkk e.symm) (h2 h)
  · rintro L w' hall ⟨hg,_⟩;exact hg
section
variable {R:Nat→World→World→Prop} {A:Nat→World→Prop} {Fin:List Oper→(Rho→Fr)→(Rho→Nat→World→Prop)→Prop} {k:Nat} {E:List Ent} {g:Rho→Fr} {H:Rho→Nat→World→Prop} {d:Tmp} {t:TypeId} {pos:String} {af:Array Edge}
theorem DW_fr2 {F:Value→World→Prop} {id:FuncId} [TFun P id] {l:List Operand} {vl:Rho→List Value} {tys:Array TypeId} {j:Nat} {want:Bool} {t':Tmp} (hd:(ops[j]?).bind (·.dst)=some t') (hn:Nat.blt t' n.k=true) (hv:∀ r,g r t'=.bool want) (ha:∀ r,l.map (ev n (g r))=vl r)
    (hc:∀ r w,A k w→(∀ j,td ops k j=true→H r j w)→Calls P id (vl r).toArray w fun e w'=>∃ v,e=.returned v∧R k w w'∧F v w') (hF:∀ i v w w',i ≠ k→td ops k i=false→R i w w'→F v w→F v w')
    (hr:DW R P n ops A Fin rest (k+1) E (fun r=>upd (g r) d (r k)) (fun r j w=>bif Nat.beq j k then F (r k) w else H r j w)):DW R P n ops A Fin (⟨some d,.call ⟨.value (.func id),l.toArray,tys⟩,t,pos,af,some (j,want)⟩ :: rest) k (.op (fun r w=>F (r k) w) :: E) g H :=
  .op (fun r w hA hH=>⟨(q7e rfl hd hn (hv r)).trans (by cases want <;> rfl),q8t (o:=⟨some d,.call ⟨.value (.func id),l.toArray,tys⟩,t,pos,af,some (j,want)⟩) (X_fn (ha r)) (hc r w hA hH) fun e w' ⟨v,he,hE,hv⟩=>⟨v,he,hE,by rw [q5y];exact hv⟩⟩) (fun i r w w' h1 h2 hE h=>hF i _ _ _ h1 h2 hE h) hr
end
end Go.Proofs.K
namespace Go.Proofs.K
open Go.RowKit Go.Shelf
variable {P:Program} {n:NN} {Q:Exit→Fr→World→Prop} {f:Fr} {w:World} {ops:Array Oper} {rest:List Oper}
variable {S S':Nat→Prop} {a b c:World} {B:Nat}
theorem q2x {k:Nat} {o:Obj} (h:a.heap[k]?=some o):k < a.heap.size:=(Array.getElem?_eq_some_iff.1 h).1
theorem Ext.heap {k:Nat} {o:Obj} (E:Ext a b) (h:a.heap[k]?=some o):b.heap[k]?=some o:=(E.block k (q2x h) (by simp)).trans h
def RowN (N:Nat→Prop) (w:World) (size:Nat) (v:Value) (m:Nat) (xs:List Value):Prop:=∃ lo hi,(∀ k,lo≤k→k < hi→N k)∧Row w lo hi size v m xs
section
variable {N N':Nat→Prop} {size m:Nat} {v:Value} {xs:List Value}
theorem RowN.mono (h:RowN N a size v m xs) (hN:∀ k,N k→N' k):RowN N' a size v m xs:=by
  obtain ⟨lo,hi,h1,h2⟩:=h;exact ⟨lo,hi,fun k hk hk2=>hN k (h1 k hk hk2),h2⟩
theorem RowN.ext (h:RowN N a size v m xs) (E:Ext a b):RowN N b size v m xs:=by
  obtain ⟨lo,hi,h1,h2⟩:=h;exact ⟨lo,hi,h1,h2.ext E⟩
theorem RowN.grown {row:Option Nat} (h:RowN N a size v m xs) (g:a.grownBy b row) (hr:∀ q,row=some q→¬ N q):RowN N b size v m xs:=by
  obtain ⟨lo,hi,h1,h2⟩:=h;refine ⟨lo,hi,h1,h2.grown g fun q hq=>?_⟩;by_cases h3:q < lo
  · exact .inl h3
  · by_cases h4:hi≤q
    · exact .inr h4
    · exact absurd (h1 q (by omega) (by omega)) (hr q hq)
theorem RowN.of {lo hi:Nat} (h:Row a lo hi size v m xs):RowN (fun k=>lo≤k∧k < hi) a size v m xs:=⟨lo,hi,fun _ h1 h2=>⟨h1,h2⟩,h⟩
theorem RowN.ofAny {lo hi:Nat} (h:Row a lo hi size v m xs):RowN (fun _=>True) a size v m xs:=⟨lo,hi,fun _ _ _=>trivial,h⟩
theorem RowN.of_own {base e:Nat} (h:a.ownsRow base e size v m xs):RowN (fun k=>base≤k∧k < a.heap.size) a size v m xs:=RowN.of (Row.of_own h)
theorem RowN.tight (h:RowN N a size v m xs) (hs:0 < size):RowN (fun k=>N k∧k < a.heap.size) a size v m xs:=by
  obtain ⟨lo,hi,h1,hl,A,c,he,hc,hcm,hn⟩:=h;by_cases hm:0 < m
  · obtain ⟨q,o,hA,h4,h5,h3⟩:=hn hm;have hx:0 < xs.length:=(by rw [hl];exact Nat.mul_pos hm hs);obtain ⟨c',t,fz,hcc⟩:=q5r (h3 0 xs[0] (List.getElem?_eq_getElem hx));exact ⟨q,q+1,fun k hk hk2=>by rw [show k=q by omega];exact ⟨h1 q h4 h5,q2x hcc⟩,hl,A,c,he,hc,hcm,fun _=>⟨q,o,hA,by omega,by omega,h3⟩⟩
  · exact ⟨0,0,fun k _ h=>absurd h (by omega),hl,A,c,he,hc,hcm,fun h0=>absurd h0 hm⟩
theorem RowN.form (h:RowN N a size v m xs):∃ A c,v=.slice A m c∧m≤c∧c≤maxLen:=by
  obtain ⟨lo,hi,h1,hl,A,c,he,hc,hcm,hn⟩:=h;exact ⟨A,c,he,hc,hcm⟩
theorem RowN.cell1 (h:RowN N a size v m xs):v.oneCell'=true:=by
  obtain ⟨A,c,rfl,_⟩:=h.form;rfl
theorem RowN.at {k:Nat} (h:RowN N a size v m xs) (hk:k < m):∃ b o c,v=.slice (some ⟨b,o,none⟩) m c∧m≤c∧c≤maxLen∧N b∧a.rangeAt b o xs:=by
  obtain ⟨lo,hi,h1,hl,A,c,he,hc,hcm,hn⟩:=h;obtain ⟨q,o,rfl,h4,h5,h3⟩:=hn (by omega);exact ⟨q,o,c,he,hc,hcm,h1 q h4 h5,h3⟩
theorem RowN.len (h:RowN N a size v m xs):xs.length=m * size:=by
  obtain ⟨lo,hi,h1,hl,_⟩:=h;exact hl
theorem RowN.re {m':Nat} {ys:List Value} (h:RowN N a size v m xs) (hm:m=m') (hx:xs=ys):RowN N a size v m' ys:=by subst hm;subst hx;exact h
end
section
variable {N N':Nat→Prop} {kd:IntKind} {v:Value} {M:List (List Nat)}
end
theorem Row.of_blkH {size g o m c:Nat} {T:TypeId} {cs xs:List Value} (h:Blk a g T cs) (hc:m≤c) (hm:c≤maxLen) (hl:xs.length=m * size) (hx:∀ j u,xs[j]?=some u→cs[o+j]?=some u):Row a g (g+1) size (.slice (some ⟨g,o,none⟩) m c) m xs :=
  ⟨hl,_,_,rfl,hc,hm,fun _=>⟨g,o,rfl,Nat.le_refl _,Nat.lt_succ_self _,h.range hx⟩⟩
section
variable {A:Nat→World→Prop} {Fin:List Oper→(Rho→Fr)→(Rho→Nat→World→Prop)→Prop} {E:List Ent} {gf:Rho→Fr} {H:Rho→Nat→World→Prop} {t ty:TypeId} {pos:String} {af:Array Edge} {x y:Operand}
end
section
variable {d:Option Tmp} {t ty e:TypeId} {pos:String} {af:Array Edge} {g:Option (Nat × Bool)} {x y z u:Operand}
end
section
variable {d:Option Tmp} {t ty e:TypeId} {pos:String} {af:Array Edge} {g:Option (Nat × Bool)} {x y z u:Operand}
end
section
variable {d:Tmp} {t ty e:TypeId} {pos:String} {af:Array Edge} {x y:Operand}
theorem L_make {z:List Value} {size bytes:Nat} [ht:TSlice P ty e] [hz:TZero P e z] [he:TElem P e size bytes] {kl kc:IntKind} {l c:Int} (m q:Nat) (hx:ev n f x=.int kl l) (hy:ev n f y=.int kc c) (hl:l=(m:Int)) (hc:c=(q:Int)) (hmq:m≤q) (hb:bytes * q≤281474976710656) (hq:q≤1000000000000)
    (h:∀ g w',Blk w' g e (List.replicate q z).flatten→w.heap.size=g→Ext w w'→w'.heap.size=g+1→L P n ops Q rest (upd f d (.slice (some ⟨g,0,none⟩) m q)) w') :
    L P n ops Q (⟨some d,.makeSlice ty x y,t,pos,af,none⟩ :: rest) f w:=by
  subst hl;subst hc;obtain ⟨v,hv,hcs⟩:=hz.h;have hsz:=hz.s;obtain ⟨z',hi',_,_⟩:=he.h;cases hi:P.info? e with
  | none=>simp [hi] at hsz
  | some i =>
    have hzero:i.zero=some v:=(by simpa [hi] using hv);have hsize:i.size=z.length:=(by simpa [hi] using hsz);have hbytes:i.bytes=bytes:=(by simp [hi] at hi';exact hi'.2.2);have hbi:(i.bytes:Int) * (q:Int)≤281474976710656:=by
      rw [hbytes,← Int.natCast_mul];omega
    have hr:=run_make (P:=P) w ty e i v ht.h hi hzero kl kc (m:Int) (q:Int) (by omega) (by omega) hbi (by omega);simp only [Int.toNat_natCast] at hr;have hm:madeCells v.cells (q * i.size)=(List.replicate q z).flatten.toArray:=by
      unfold madeCells;rw [hcs,hsize];exact z0j z q
    rw [hm] at hr;refine Ls (v:=.slice (some ⟨w.heap.size,0,none⟩) m q) (w':=w.alloc (.cells (List.replicate q z).flatten.toArray e)) ?_ (h w.heap.size _ (Blk.new w e _) rfl (q1m _ _) (by simp));simp only [X,execOp,hx,hy,Sem.run_bind,hr,Result.andThen_ok,Sem.run_pure]
end
section
variable {t ty e:TypeId} {pos:String} {af:Array Edge} {x y:Operand}
end
section
variable {d:Option Tmp} {t ty e:TypeId} {pos:String} {af:Array Edge} {g:Option (Nat × Bool)} {x y z u:Operand}
end
end Go.Proofs.K
namespace Go.Proofs.K
open Go.RowKit
variable {P:Program} {n:NN} {Q:Exit→Fr→World→Prop} {f:Fr} {w:World} {ops:Array Oper} {rest:List Oper}
structure KeepTy (B g:Nat) (T:TypeId) (a b:World):Prop where
  size:a.heap.size≤b.heap.size
  same:∀ k c t fz,k ≠ g→(k < B∨t ≠ T)→a.heap[k]?=some (.cells c t fz)→b.heap[k]?=some (.cells c t fz)
section
variable {B g:Nat} {T:TypeId} {a b c:World}
theorem KeepTy.trans (h:KeepTy B g T a b) (k:KeepTy B g T b c):KeepTy B g T a c:=⟨Nat.le_trans h.size k.size,fun i cs t fz hi ht e=>k.same i cs t fz hi ht (h.same i cs t fz hi ht e)⟩
theorem KeepTy.of_ext (E:Ext a b):KeepTy B g T a b:=⟨E.size,fun _ _ _ _ _ _ e=>E.heap e⟩
theorem KeepTy.refl (a:World):KeepTy B g T a a:=KeepTy.of_ext (Ext.refl a)
theorem KeepTy.of_grown {row:Option Nat} (G:a.grownBy b row) (h:∀ q,row=some q→q=g∨(B≤q∧∃ cs fz,a.heap[q]?=some (.cells cs T fz))):KeepTy B g T a b :=
  ⟨G.size,fun k cs t fz hk ht e=>by
    refine (G.block k (q2x e) fun hr=>?_).trans e
    rcases h k hr.symm with rfl | ⟨hB,cs',fz',e'⟩
    · exact hk rfl
    · rw [e] at e'
      cases e'
      rcases ht with ht | ht
      · omega
      · exact ht rfl⟩
theorem KeepTy.blk {k:Nat} {t:TypeId} {cs:List Value} (h:KeepTy B g T a b) (hB:Blk a k t cs) (hk:k ≠ g) (ht:k < B∨t ≠ T):Blk b k t cs:=h.same k _ t _ hk ht hB
theorem KeepTy.cell {p:Addr} {v:Value} (h:KeepTy B g T a b) (hp:p.block ≠ g) (hB:p.block < B) (hv:a.cell? p=some v):b.cell? p=some v:=by
  obtain ⟨c,t,fz,e⟩:=q5r hv;have e':=h.same p.block c t fz hp (.inl hB) e;have:b.cell? p=a.cell? p:=by
    unfold World.cell?;rw [e,e']
  rw [this];exact hv
theorem z0s {base e size m:Nat} {v:Value} {xs:List Value} (h:a.ownsRow base e size v m xs):∀ q,v.ownBlock=some q→base≤q∧∃ cs fz,a.heap[q]?=some (.cells cs e fz):=by
  intro q hq;rcases h.2 with ⟨rfl,_⟩ | ⟨g',cap,cur,rfl,hb,hg,_⟩
  · cases hq
  · obtain rfl:g'=q:=Option.some.inj hq;exact ⟨hb,_,_,hg⟩
end
section
variable {d:Option Tmp} {t ty e:TypeId} {pos:String} {af:Array Edge} {x:Operand} {g:Option (Nat × Bool)} {w0:World}
end
section
variable {d:Option Tmp} {t ty e:TypeId} {pos:String} {af:Array Edge} {x y:Operand} {g:Option (Nat × Bool)} {w0:World}
end
section
variable {R:Nat→World→World→Prop} {A:Nat→World→Prop} {Fin:List Oper→(Rho→Fr)→(Rho→Nat→World→Prop)→Prop} {k:Nat} {E:List Ent} {g:Rho→Fr} {H:Rho→Nat→World→Prop} {d:Tmp} {t:TypeId} {pos:String} {af:Array Edge}
theorem DW_frc {F:Value→World→Prop} {id:FuncId} [TFun P id] {x:Operand} {l:List Operand} {vl:Rho→List Value} {tys:Array TypeId} {first cap:Array Value} (hx:∀ r,ev n (g r) x=.func (.func id) first cap) (ha:∀ r,l.map (ev n (g r))=vl r)
    (hc:∀ r w,A k w→(∀ j,td ops k j=true→H r j w)→Calls P id (first++(vl r).toArray++cap) w fun e w'=>∃ v,e=.returned v∧R k w w'∧F v w') (hF:∀ i v w w',i ≠ k→td ops k i=false→R i w w'→F v w→F v w')
    (hr:DW R P n ops A Fin rest (k+1) E (fun r=>upd (g r) d (r k)) (fun r j w=>bif Nat.beq j k then F (r k) w else H r j w)):DW R P n ops A Fin (⟨some d,.call ⟨.value x,l.toArray,tys⟩,t,pos,af,none⟩ :: rest) k (.op (fun r w=>F (r k) w) :: E) g H :=
  .op (fun r w hA hH=>⟨q5u rfl,q8t (X_clo (hx r) (ha r)) (hc r w hA hH) fun e w' ⟨v,he,hE,hv⟩=>⟨v,he,hE,by rw [q5y];exact hv⟩⟩) (fun i r w w' h1 h2 hE h=>hF i _ _ _ h1 h2 hE h) hr
end
end Go.Proofs.K
namespace Go.Proofs.YtbolofkandcnlaaGreatDoor
open Go.Proofs.K
set_option maxRecDepth 100000
instance:TMixed Tryz.prog:=⟨by kernel_rfl⟩
instance:TInt Tryz.prog 2 .i64:=⟨Tryz.underlying2⟩
theorem inf2:(Tryz.prog.info? 2).map (fun i=>(i.zero,i.size,i.bytes))=some (some (.int .i64 0),1,8):=by kernel_rfl
instance:TZero Tryz.prog 2 [.int .i64 0]:=q2n inf2 (by rfl)
instance:TSz Tryz.prog 2 1:=⟨q2w inf2⟩
instance:TElem Tryz.prog 2 1 8:=⟨_,inf2,rfl,by decide⟩
instance:TOne Tryz.prog 2:=⟨⟨_,Tryz.underlying2,rfl⟩,q2w inf2⟩
instance:TInt Tryz.prog 3 .i64:=⟨Tryz.underlying3⟩
theorem inf3:(Tryz.prog.info? 3).map (fun i=>(i.zero,i.size,i.bytes))=some (some (.int .i64 0),1,8):=by kernel_rfl
instance:TZero Tryz.prog 3 [.int .i64 0]:=q2n inf3 (by rfl)
instance:TSz Tryz.prog 3 1:=⟨q2w inf3⟩
instance:TOne Tryz.prog 3:=⟨⟨_,Tryz.underlying3,rfl⟩,q2w inf3⟩
theorem inf4:(Tryz.prog.info? 4).map (fun i=>(i.zero,i.size,i.bytes))=some (some (.bool false),1,1):=by kernel_rfl
instance:TZero Tryz.prog 4 [.bool false]:=q2n inf4 (by rfl)
instance:TOne Tryz.prog 4:=⟨⟨_,Tryz.underlying4,rfl⟩,q2w inf4⟩
instance:TInt Tryz.prog 5 .u8:=⟨Tryz.underlying5⟩
theorem inf5:(Tryz.prog.info? 5).map (fun i=>(i.zero,i.size,i.bytes))=some (some (.int .u8 0),1,1):=by kernel_rfl
instance:TInfo Tryz.prog 5 1 1 (.int .u8 0):=⟨inf5⟩
instance:TZero Tryz.prog 5 [.int .u8 0]:=q2n inf5 (by rfl)
instance:TSz Tryz.prog 5 1:=⟨q2w inf5⟩
instance:TElem Tryz.prog 5 1 1:=⟨_,inf5,rfl,by decide⟩
instance:TOne Tryz.prog 5:=⟨⟨_,Tryz.underlying5,rfl⟩,q2w inf5⟩
instance:TStr Tryz.prog 9:=⟨Tryz.underlying9⟩
theorem inf9:(Tryz.prog.info? 9).map (fun i=>(i.zero,i.size,i.bytes))=some (some (.string ByteArray.empty),1,16):=by kernel_rfl
instance:TZero Tryz.prog 9 [.string ByteArray.empty]:=q2n inf9 (by rfl)
instance:TSz Tryz.prog 9 1:=⟨q2w inf9⟩
instance:TOne Tryz.prog 9:=⟨⟨_,Tryz.underlying9,rfl⟩,q2w inf9⟩
instance:TArr Tryz.prog 23 32 5:=⟨Tryz.underlying23⟩
theorem inf23:(Tryz.prog.info? 23).map (fun i=>(i.zero,i.size,i.bytes))=some (some (.agg ((List.replicate 32 [.int .u8 0]).flatten).toArray),32,32):=by kernel_rfl
instance:TZero Tryz.prog 23 (List.replicate 32 [.int .u8 0]).flatten:=q2n inf23 (by rfl)
instance:TSz Tryz.prog 23 32:=⟨q2w inf23⟩
instance:TElem Tryz.prog 23 32 32:=⟨_,inf23,rfl,by decide⟩
instance:TAgg Tryz.prog 23 32:=⟨⟨_,Tryz.underlying23,rfl⟩,q2w inf23⟩
theorem inf25:(Tryz.prog.info? 25).map (fun i=>(i.zero,i.size,i.bytes))=some (some (.agg ([[.int .i64 0],[.int .i64 0],[.int .i64 0],[.int .i64 0]].flatten).toArray),4,32):=by kernel_rfl
instance:TAgg Tryz.prog 25 4:=⟨⟨_,Tryz.underlying25,rfl⟩,q2w inf25⟩
instance:TFld Tryz.prog 25 0 0 3:=⟨⟨_,_,Tryz.underlying25,rfl,rfl,rfl⟩,q2t (k:=0) (by kernel_rfl)⟩
instance:TFld Tryz.prog 25 1 1 3:=⟨⟨_,_,Tryz.underlying25,rfl,rfl,rfl⟩,q2t (k:=0) (by kernel_rfl)⟩
instance:TFld Tryz.prog 25 2 2 3:=⟨⟨_,_,Tryz.underlying25,rfl,rfl,rfl⟩,q2t (k:=0) (by kernel_rfl)⟩
instance:TFld Tryz.prog 25 3 3 3:=⟨⟨_,_,Tryz.underlying25,rfl,rfl,rfl⟩,q2t (k:=0) (by kernel_rfl)⟩
instance:TSegs Tryz.prog 25 [[.int .i64 0],[.int .i64 0],[.int .i64 0],[.int .i64 0]]:=q3r Tryz.underlying25 (by kernel_rfl) (by kernel_rfl)
instance:TSlice Tryz.prog 26 2:=⟨Tryz.underlying26⟩
theorem inf26:(Tryz.prog.info? 26).map (fun i=>(i.zero,i.size,i.bytes))=some (some (.slice none 0 0),1,24):=by kernel_rfl
instance:TOne Tryz.prog 26:=⟨⟨_,Tryz.underlying26,rfl⟩,q2w inf26⟩
instance:TSlice Tryz.prog 27 35:=⟨Tryz.underlying27⟩
instance:TSlice Tryz.prog 28 35:=⟨Tryz.underlying28⟩
theorem inf28:(Tryz.prog.info? 28).map (fun i=>(i.zero,i.size,i.bytes))=some (some (.slice none 0 0),1,24):=by kernel_rfl
instance:TOne Tryz.prog 28:=⟨⟨_,Tryz.underlying28,rfl⟩,q2w inf28⟩
instance:TSlice Tryz.prog 29 99:=⟨Tryz.underlying29⟩
theorem inf29:(Tryz.prog.info? 29).map (fun i=>(i.zero,i.size,i.bytes))=some (some (.slice none 0 0),1,24):=by kernel_rfl
instance:TOne Tryz.prog 29:=⟨⟨_,Tryz.underlying29,rfl⟩,q2w inf29⟩
theorem inf31:(Tryz.prog.info? 31).map (fun i=>(i.zero,i.size,i.bytes))=some (some (.agg ([[.slice none 0 0],[.slice none 0 0],[.slice none 0 0]].flatten).toArray),3,72):=by kernel_rfl
instance:TAgg Tryz.prog 31 3:=⟨⟨_,Tryz.underlying31,rfl⟩,q2w inf31⟩
instance:TFld Tryz.prog 31 0 0 28:=⟨⟨_,_,Tryz.underlying31,rfl,rfl,rfl⟩,q2t (k:=0) (by kernel_rfl)⟩
instance:TFld Tryz.prog 31 1 1 29:=⟨⟨_,_,Tryz.underlying31,rfl,rfl,rfl⟩,q2t (k:=0) (by kernel_rfl)⟩
instance:TFld Tryz.prog 31 2 2 29:=⟨⟨_,_,Tryz.underlying31,rfl,rfl,rfl⟩,q2t (k:=0) (by kernel_rfl)⟩
instance:TSegs Tryz.prog 31 [[.slice none 0 0],[.slice none 0 0],[.slice none 0 0]]:=q3r Tryz.underlying31 (by kernel_rfl) (by kernel_rfl)
instance:TInt Tryz.prog 32 .u64:=⟨Tryz.underlying32⟩
theorem inf32:(Tryz.prog.info? 32).map (fun i=>(i.zero,i.size,i.bytes))=some (some (.int .u64 0),1,8):=by kernel_rfl
instance:TZero Tryz.prog 32 [.int .u64 0]:=q2n inf32 (by rfl)
instance:TSz Tryz.prog 32 1:=⟨q2w inf32⟩
instance:TElem Tryz.prog 32 1 8:=⟨_,inf32,rfl,by decide⟩
instance:TOne Tryz.prog 32:=⟨⟨_,Tryz.underlying32,rfl⟩,q2w inf32⟩
theorem inf34:(Tryz.prog.info? 34).map (fun i=>(i.zero,i.size,i.bytes))=some (some (.agg ([[.int .u64 0],[.int .u64 0]].flatten).toArray),2,16):=by kernel_rfl
instance:TZero Tryz.prog 34 [[.int .u64 0],[.int .u64 0]].flatten:=q2n inf34 (by rfl)
instance:TSz Tryz.prog 34 2:=⟨q2w inf34⟩
instance:TElem Tryz.prog 34 2 16:=⟨_,inf34,rfl,by decide⟩
instance:TAgg Tryz.prog 34 2:=⟨⟨_,Tryz.underlying34,rfl⟩,q2w inf34⟩
instance:TFld Tryz.prog 34 0 0 32:=⟨⟨_,_,Tryz.underlying34,rfl,rfl,rfl⟩,q2t (k:=0) (by kernel_rfl)⟩
instance:TFld Tryz.prog 34 1 1 32:=⟨⟨_,_,Tryz.underlying34,rfl,rfl,rfl⟩,q2t (k:=0) (by kernel_rfl)⟩
instance:TSegs Tryz.prog 34 [[.int .u64 0],[.int .u64 0]]:=q3r Tryz.underlying34 (by kernel_rfl) (by kernel_rfl)
instance:TSlice Tryz.prog 35 34:=⟨Tryz.underlying35⟩
theorem inf35:(Tryz.prog.info? 35).map (fun i=>(i.zero,i.size,i.bytes))=some (some (.slice none 0 0),1,24):=by kernel_rfl
instance:TZero Tryz.prog 35 [.slice none 0 0]:=q2n inf35 (by rfl)
instance:TSz Tryz.prog 35 1:=⟨q2w inf35⟩
instance:TElem Tryz.prog 35 1 24:=⟨_,inf35,rfl,by decide⟩
instance:TOne Tryz.prog 35:=⟨⟨_,Tryz.underlying35,rfl⟩,q2w inf35⟩
instance:TSlice Tryz.prog 36 69:=⟨Tryz.underlying36⟩
theorem inf36:(Tryz.prog.info? 36).map (fun i=>(i.zero,i.size,i.bytes))=some (some (.slice none 0 0),1,24):=by kernel_rfl
instance:TOne Tryz.prog 36:=⟨⟨_,Tryz.underlying36,rfl⟩,q2w inf36⟩
instance:TSlice Tryz.prog 37 23:=⟨Tryz.underlying37⟩
theorem inf37:(Tryz.prog.info? 37).map (fun i=>(i.zero,i.size,i.bytes))=some (some (.slice none 0 0),1,24):=by kernel_rfl
instance:TOne Tryz.prog 37:=⟨⟨_,Tryz.underlying37,rfl⟩,q2w inf37⟩
instance:TFld Tryz.prog 39 0 0 37:=⟨⟨_,_,Tryz.underlying39,rfl,rfl,rfl⟩,q2t (k:=0) (by kernel_rfl)⟩
theorem inf41:(Tryz.prog.info? 41).map (fun i=>(i.zero,i.size,i.bytes))=some (some (.agg ([[.slice none 0 0],[.slice none 0 0],[.slice none 0 0],([.slice none 0 0])].flatten).toArray),4,96):=by kernel_rfl
instance:TZero Tryz.prog 41 [[.slice none 0 0],[.slice none 0 0],[.slice none 0 0],([.slice none 0 0])].flatten:=q2n inf41 (by rfl)
instance:TAgg Tryz.prog 41 4:=⟨⟨_,Tryz.underlying41,rfl⟩,q2w inf41⟩
instance:TFld Tryz.prog 41 0 0 35:=⟨⟨_,_,Tryz.underlying41,rfl,rfl,rfl⟩,q2t (k:=0) (by kernel_rfl)⟩
instance:TFld Tryz.prog 41 1 1 35:=⟨⟨_,_,Tryz.underlying41,rfl,rfl,rfl⟩,q2t (k:=0) (by kernel_rfl)⟩
instance:TFld Tryz.prog 41 2 2 36:=⟨⟨_,_,Tryz.underlying41,rfl,rfl,rfl⟩,q2t (k:=0) (by kernel_rfl)⟩
instance:TFld Tryz.prog 41 3 3 39:=⟨⟨_,_,Tryz.underlying41,rfl,rfl,rfl⟩,q2t (k:=0) (by kernel_rfl)⟩
instance:TSegs Tryz.prog 41 [[.slice none 0 0],[.slice none 0 0],[.slice none 0 0],([.slice none 0 0])]:=q3r Tryz.underlying41 (by kernel_rfl) (by kernel_rfl)
theorem inf43:(Tryz.prog.info? 43).map (fun i=>(i.zero,i.size,i.bytes))=some (some (.agg ([[.string ByteArray.empty],[.int .i64 0],(List.replicate 32 [.int .u8 0]).flatten,([.int .i64 0]++[.int .i64 0]++[.int .i64 0]++[.int .i64 0]),[.slice none 0 0],([.slice none 0 0]++[.slice none 0 0]++[.slice none 0 0]),[.slice none 0 0],([.int .u64 0]++[.int .u64 0]),([.slice none 0 0]++[.slice none 0 0]++[.slice none 0 0]++([.slice none 0 0]))].flatten).toArray),49,320):=by kernel_rfl
instance:TZero Tryz.prog 43 [[.string ByteArray.empty],[.int .i64 0],(List.replicate 32 [.int .u8 0]).flatten,([.int .i64 0]++[.int .i64 0]++[.int .i64 0]++[.int .i64 0]),[.slice none 0 0],([.slice none 0 0]++[.slice none 0 0]++[.slice none 0 0]),[.slice none 0 0],([.int .u64 0]++[.int .u64 0]),([.slice none 0 0]++[.slice none 0 0]++[.slice none 0 0]++([.slice none 0 0]))].flatten:=q2n inf43 (by rfl)
instance:TAgg Tryz.prog 43 49:=⟨⟨_,Tryz.underlying43,rfl⟩,q2w inf43⟩
instance:TFld Tryz.prog 43 0 0 9:=⟨⟨_,_,Tryz.underlying43,rfl,rfl,rfl⟩,q2t (k:=0) (by kernel_rfl)⟩
instance:TFld Tryz.prog 43 1 1 3:=⟨⟨_,_,Tryz.underlying43,rfl,rfl,rfl⟩,q2t (k:=0) (by kernel_rfl)⟩
instance:TFld Tryz.prog 43 2 2 23:=⟨⟨_,_,Tryz.underlying43,rfl,rfl,rfl⟩,q2t (k:=31) (by kernel_rfl)⟩
instance:TFld Tryz.prog 43 3 34 25:=⟨⟨_,_,Tryz.underlying43,rfl,rfl,rfl⟩,q2t (k:=3) (by kernel_rfl)⟩
instance:TFld Tryz.prog 43 4 38 26:=⟨⟨_,_,Tryz.underlying43,rfl,rfl,rfl⟩,q2t (k:=0) (by kernel_rfl)⟩
instance:TFld Tryz.prog 43 5 39 31:=⟨⟨_,_,Tryz.underlying43,rfl,rfl,rfl⟩,q2t (k:=2) (by kernel_rfl)⟩
instance:TFld Tryz.prog 43 6 42 28:=⟨⟨_,_,Tryz.underlying43,rfl,rfl,rfl⟩,q2t (k:=0) (by kernel_rfl)⟩
instance:TFld Tryz.prog 43 7 43 34:=⟨⟨_,_,Tryz.underlying43,rfl,rfl,rfl⟩,q2t (k:=1) (by kernel_rfl)⟩
instance:TFld Tryz.prog 43 8 45 41:=⟨⟨_,_,Tryz.underlying43,rfl,rfl,rfl⟩,q2t (k:=3) (by kernel_rfl)⟩
instance:TSegs Tryz.prog 43 [[.string ByteArray.empty],[.int .i64 0],(List.replicate 32 [.int .u8 0]).flatten,([.int .i64 0]++[.int .i64 0]++[.int .i64 0]++[.int .i64 0]),[.slice none 0 0],([.slice none 0 0]++[.slice none 0 0]++[.slice none 0 0]),[.slice none 0 0],([.int .u64 0]++[.int .u64 0]),([.slice none 0 0]++[.slice none 0 0]++[.slice none 0 0]++([.slice none 0 0]))]:=q3r Tryz.underlying43 (by kernel_rfl) (by kernel_rfl)
instance:TSlice Tryz.prog 44 5:=⟨Tryz.underlying44⟩
theorem inf44:(Tryz.prog.info? 44).map (fun i=>(i.zero,i.size,i.bytes))=some (some (.slice none 0 0),1,24):=by kernel_rfl
instance:TZero Tryz.prog 44 [.slice none 0 0]:=q2n inf44 (by rfl)
instance:TSz Tryz.prog 44 1:=⟨q2w inf44⟩
instance:TOne Tryz.prog 44:=⟨⟨_,Tryz.underlying44,rfl⟩,q2w inf44⟩
instance:TInt Tryz.prog 47 .i64:=⟨Tryz.underlying47⟩
theorem inf47:(Tryz.prog.info? 47).map (fun i=>(i.zero,i.size,i.bytes))=some (some (.int .i64 0),1,8):=by kernel_rfl
instance:TZero Tryz.prog 47 [.int .i64 0]:=q2n inf47 (by rfl)
instance:TOne Tryz.prog 47:=⟨⟨_,Tryz.underlying47,rfl⟩,q2w inf47⟩
theorem inf53:(Tryz.prog.info? 53).map (fun i=>(i.zero,i.size,i.bytes))=some (some (.agg ([(List.replicate 32 [.int .u8 0]).flatten,[.int .u64 0]].flatten).toArray),33,40):=by kernel_rfl
instance:TZero Tryz.prog 53 [(List.replicate 32 [.int .u8 0]).flatten,[.int .u64 0]].flatten:=q2n inf53 (by rfl)
instance:TAgg Tryz.prog 53 33:=⟨⟨_,Tryz.underlying53,rfl⟩,q2w inf53⟩
instance:TFld Tryz.prog 53 0 0 23:=⟨⟨_,_,Tryz.underlying53,rfl,rfl,rfl⟩,q2t (k:=31) (by kernel_rfl)⟩
instance:TSegs Tryz.prog 53 [(List.replicate 32 [.int .u8 0]).flatten,[.int .u64 0]]:=q3r Tryz.underlying53 (by kernel_rfl) (by kernel_rfl)
instance:TSlice Tryz.prog 59 304:=⟨Tryz.underlying59⟩
theorem inf59:(Tryz.prog.info? 59).map (fun i=>(i.zero,i.size,i.bytes))=some (some (.slice none 0 0),1,24):=by kernel_rfl
instance:TOne Tryz.prog 59:=⟨⟨_,Tryz.underlying59,rfl⟩,q2w inf59⟩
theorem inf62:(Tryz.prog.info? 62).map (fun i=>(i.zero,i.size,i.bytes))=some (some (.agg ([[.slice none 0 0],[.slice none 0 0]].flatten).toArray),2,48):=by kernel_rfl
instance:TAgg Tryz.prog 62 2:=⟨⟨_,Tryz.underlying62,rfl⟩,q2w inf62⟩
instance:TFld Tryz.prog 62 0 0 59:=⟨⟨_,_,Tryz.underlying62,rfl,rfl,rfl⟩,q2t (k:=0) (by kernel_rfl)⟩
instance:TSegs Tryz.prog 62 [[.slice none 0 0],[.slice none 0 0]]:=q3r Tryz.underlying62 (by kernel_rfl) (by kernel_rfl)
instance:TSlice Tryz.prog 69 32:=⟨Tryz.underlying69⟩
theorem inf69:(Tryz.prog.info? 69).map (fun i=>(i.zero,i.size,i.bytes))=some (some (.slice none 0 0),1,24):=by kernel_rfl
instance:TZero Tryz.prog 69 [.slice none 0 0]:=q2n inf69 (by rfl)
instance:TSz Tryz.prog 69 1:=⟨q2w inf69⟩
instance:TElem Tryz.prog 69 1 24:=⟨_,inf69,rfl,by decide⟩
instance:TOne Tryz.prog 69:=⟨⟨_,Tryz.underlying69,rfl⟩,q2w inf69⟩
instance:TFld Tryz.prog 74 0 0 44:=⟨⟨_,_,Tryz.underlying74,rfl,rfl,rfl⟩,q2t (k:=0) (by kernel_rfl)⟩
instance:TSegs Tryz.prog 74 [[.slice none 0 0]]:=q3r Tryz.underlying74 (by kernel_rfl) (by kernel_rfl)
instance:TFld Tryz.prog 78 0 0 44:=⟨⟨_,_,Tryz.underlying78,rfl,rfl,rfl⟩,q2t (k:=0) (by kernel_rfl)⟩
instance:TFld Tryz.prog 78 1 1 3:=⟨⟨_,_,Tryz.underlying78,rfl,rfl,rfl⟩,q2t (k:=0) (by kernel_rfl)⟩
instance:TFld Tryz.prog 78 2 2 47:=⟨⟨_,_,Tryz.underlying78,rfl,rfl,rfl⟩,q2t (k:=0) (by kernel_rfl)⟩
instance:TSegs Tryz.prog 78 [[.slice none 0 0],[.int .i64 0],[.int .i64 0]]:=q3r Tryz.underlying78 (by kernel_rfl) (by kernel_rfl)
instance:TFld Tryz.prog 87 0 0 44:=⟨⟨_,_,Tryz.underlying87,rfl,rfl,rfl⟩,q2t (k:=0) (by kernel_rfl)⟩
instance:TSegs Tryz.prog 87 [[.slice none 0 0]]:=q3r Tryz.underlying87 (by kernel_rfl) (by kernel_rfl)
instance:TSlice Tryz.prog 92 3:=⟨Tryz.underlying92⟩
theorem inf99:(Tryz.prog.info? 99).map (fun i=>(i.zero,i.size,i.bytes))=some (some (.agg ([[.slice none 0 0],([.int .u64 0]++[.int .u64 0]),([.int .u64 0]++[.int .u64 0]),[.slice none 0 0]].flatten).toArray),6,80):=by kernel_rfl
instance:TZero Tryz.prog 99 [[.slice none 0 0],([.int .u64 0]++[.int .u64 0]),([.int .u64 0]++[.int .u64 0]),[.slice none 0 0]].flatten:=q2n inf99 (by rfl)
instance:TSz Tryz.prog 99 6:=⟨q2w inf99⟩
instance:TElem Tryz.prog 99 6 80:=⟨_,inf99,rfl,by decide⟩
instance:TAgg Tryz.prog 99 6:=⟨⟨_,Tryz.underlying99,rfl⟩,q2w inf99⟩
instance:TFld Tryz.prog 99 0 0 28:=⟨⟨_,_,Tryz.underlying99,rfl,rfl,rfl⟩,q2t (k:=0) (by kernel_rfl)⟩
instance:TFld Tryz.prog 99 1 1 34:=⟨⟨_,_,Tryz.underlying99,rfl,rfl,rfl⟩,q2t (k:=1) (by kernel_rfl)⟩
instance:TFld Tryz.prog 99 2 3 34:=⟨⟨_,_,Tryz.underlying99,rfl,rfl,rfl⟩,q2t (k:=1) (by kernel_rfl)⟩
instance:TFld Tryz.prog 99 3 5 35:=⟨⟨_,_,Tryz.underlying99,rfl,rfl,rfl⟩,q2t (k:=0) (by kernel_rfl)⟩
instance:TSegs Tryz.prog 99 [[.slice none 0 0],([.int .u64 0]++[.int .u64 0]),([.int .u64 0]++[.int .u64 0]),[.slice none 0 0]]:=q3r Tryz.underlying99 (by kernel_rfl) (by kernel_rfl)
theorem inf123:(Tryz.prog.info? 123).map (fun i=>(i.zero,i.size,i.bytes))=some (some (.agg ([[.slice none 0 0],[.slice none 0 0],([.int .i64 0]++[.int .i64 0]++[.int .i64 0]++[.int .i64 0]),(List.replicate 32 [.int .u8 0]).flatten].flatten).toArray),38,112):=by kernel_rfl
instance:TZero Tryz.prog 123 [[.slice none 0 0],[.slice none 0 0],([.int .i64 0]++[.int .i64 0]++[.int .i64 0]++[.int .i64 0]),(List.replicate 32 [.int .u8 0]).flatten].flatten:=q2n inf123 (by rfl)
instance:TAgg Tryz.prog 123 38:=⟨⟨_,Tryz.underlying123,rfl⟩,q2w inf123⟩
instance:TFld Tryz.prog 123 3 6 23:=⟨⟨_,_,Tryz.underlying123,rfl,rfl,rfl⟩,q2t (k:=31) (by kernel_rfl)⟩
instance:TSegs Tryz.prog 123 [[.slice none 0 0],[.slice none 0 0],([.int .i64 0]++[.int .i64 0]++[.int .i64 0]++[.int .i64 0]),(List.replicate 32 [.int .u8 0]).flatten]:=q3r Tryz.underlying123 (by kernel_rfl) (by kernel_rfl)
theorem inf131:(Tryz.prog.info? 131).map (fun i=>(i.zero,i.size,i.bytes))=some (some (.pointer none),1,8):=by kernel_rfl
instance:TZero Tryz.prog 131 [.pointer none]:=q2n inf131 (by rfl)
instance:TSz Tryz.prog 131 1:=⟨q2w inf131⟩
instance:TOne Tryz.prog 131:=⟨⟨_,Tryz.underlying131,rfl⟩,q2w inf131⟩
instance:TSlice Tryz.prog 132 131:=⟨Tryz.underlying132⟩
instance:TSlice Tryz.prog 159 255:=⟨Tryz.underlying159⟩
theorem inf159:(Tryz.prog.info? 159).map (fun i=>(i.zero,i.size,i.bytes))=some (some (.slice none 0 0),1,24):=by kernel_rfl
instance:TOne Tryz.prog 159:=⟨⟨_,Tryz.underlying159,rfl⟩,q2w inf159⟩
theorem inf161:(Tryz.prog.info? 161).map (fun i=>(i.zero,i.size,i.bytes))=some (some (.agg ([[.int .i64 0],[.int .i64 0],[.int .i64 0],[.slice none 0 0]].flatten).toArray),4,48):=by kernel_rfl
instance:TZero Tryz.prog 161 [[.int .i64 0],[.int .i64 0],[.int .i64 0],[.slice none 0 0]].flatten:=q2n inf161 (by rfl)
instance:TAgg Tryz.prog 161 4:=⟨⟨_,Tryz.underlying161,rfl⟩,q2w inf161⟩
instance:TFld Tryz.prog 161 0 0 3:=⟨⟨_,_,Tryz.underlying161,rfl,rfl,rfl⟩,q2t (k:=0) (by kernel_rfl)⟩
instance:TFld Tryz.prog 161 1 1 3:=⟨⟨_,_,Tryz.underlying161,rfl,rfl,rfl⟩,q2t (k:=0) (by kernel_rfl)⟩
instance:TFld Tryz.prog 161 2 2 3:=⟨⟨_,_,Tryz.underlying161,rfl,rfl,rfl⟩,q2t (k:=0) (by kernel_rfl)⟩
instance:TFld Tryz.prog 161 3 3 159:=⟨⟨_,_,Tryz.underlying161,rfl,rfl,rfl⟩,q2t (k:=0) (by kernel_rfl)⟩
instance:TSegs Tryz.prog 161 [[.int .i64 0],[.int .i64 0],[.int .i64 0],[.slice none 0 0]]:=q3r Tryz.underlying161 (by kernel_rfl) (by kernel_rfl)
theorem inf165:(Tryz.prog.info? 165).map (fun i=>(i.zero,i.size,i.bytes))=some (some (.agg ([[.slice none 0 0]].flatten).toArray),1,24):=by kernel_rfl
instance:TZero Tryz.prog 165 [[.slice none 0 0]].flatten:=q2n inf165 (by rfl)
instance:TAgg Tryz.prog 165 1:=⟨⟨_,Tryz.underlying165,rfl⟩,q2w inf165⟩
instance:TSegs Tryz.prog 165 [[.slice none 0 0]]:=q3r Tryz.underlying165 (by kernel_rfl) (by kernel_rfl)
instance:TInt Tryz.prog 195 .u32:=⟨Tryz.underlying195⟩
theorem inf195:(Tryz.prog.info? 195).map (fun i=>(i.zero,i.size,i.bytes))=some (some (.int .u32 0),1,4):=by kernel_rfl
instance:TZero Tryz.prog 195 [.int .u32 0]:=q2n inf195 (by rfl)
instance:TSz Tryz.prog 195 1:=⟨q2w inf195⟩
instance:TOne Tryz.prog 195:=⟨⟨_,Tryz.underlying195,rfl⟩,q2w inf195⟩
instance:TArr Tryz.prog 196 8 195:=⟨Tryz.underlying196⟩
theorem inf196:(Tryz.prog.info? 196).map (fun i=>(i.zero,i.size,i.bytes))=some (some (.agg ((List.replicate 8 [.int .u32 0]).flatten).toArray),8,32):=by kernel_rfl
instance:TZero Tryz.prog 196 (List.replicate 8 [.int .u32 0]).flatten:=q2n inf196 (by rfl)
instance:TAgg Tryz.prog 196 8:=⟨⟨_,Tryz.underlying196,rfl⟩,q2w inf196⟩
instance:TArr Tryz.prog 197 8 195:=⟨Tryz.underlying197⟩
theorem inf197:(Tryz.prog.info? 197).map (fun i=>(i.zero,i.size,i.bytes))=some (some (.agg ((List.replicate 8 [.int .u32 0]).flatten).toArray),8,32):=by kernel_rfl
instance:TZero Tryz.prog 197 (List.replicate 8 [.int .u32 0]).flatten:=q2n inf197 (by rfl)
instance:TAgg Tryz.prog 197 8:=⟨⟨_,Tryz.underlying197,rfl⟩,q2w inf197⟩
instance:TSlice Tryz.prog 201 44:=⟨Tryz.underlying201⟩
instance:TFld Tryz.prog 216 0 0 9:=⟨⟨_,_,Tryz.underlying216,rfl,rfl,rfl⟩,q2t (k:=0) (by kernel_rfl)⟩
instance:TFld Tryz.prog 216 1 1 3:=⟨⟨_,_,Tryz.underlying216,rfl,rfl,rfl⟩,q2t (k:=0) (by kernel_rfl)⟩
instance:TFld Tryz.prog 216 2 2 3:=⟨⟨_,_,Tryz.underlying216,rfl,rfl,rfl⟩,q2t (k:=0) (by kernel_rfl)⟩
instance:TFld Tryz.prog 216 3 3 47:=⟨⟨_,_,Tryz.underlying216,rfl,rfl,rfl⟩,q2t (k:=0) (by kernel_rfl)⟩
instance:TSegs Tryz.prog 216 [[.string ByteArray.empty],[.int .i64 0],[.int .i64 0],[.int .i64 0]]:=q3r Tryz.underlying216 (by kernel_rfl) (by kernel_rfl)
theorem inf219:(Tryz.prog.info? 219).map (fun i=>(i.zero,i.size,i.bytes))=some (some (.agg ([[.int .i64 0],[.string ByteArray.empty]].flatten).toArray),2,24):=by kernel_rfl
instance:TZero Tryz.prog 219 [[.int .i64 0],[.string ByteArray.empty]].flatten:=q2n inf219 (by rfl)
instance:TAgg Tryz.prog 219 2:=⟨⟨_,Tryz.underlying219,rfl⟩,q2w inf219⟩
instance:TFld Tryz.prog 219 0 0 3:=⟨⟨_,_,Tryz.underlying219,rfl,rfl,rfl⟩,q2t (k:=0) (by kernel_rfl)⟩
instance:TFld Tryz.prog 219 1 1 9:=⟨⟨_,_,Tryz.underlying219,rfl,rfl,rfl⟩,q2t (k:=0) (by kernel_rfl)⟩
instance:TSegs Tryz.prog 219 [[.int .i64 0],[.string ByteArray.empty]]:=q3r Tryz.underlying219 (by kernel_rfl) (by kernel_rfl)
instance:TOne Tryz.prog 222:=⟨⟨_,Tryz.underlying222,rfl⟩,by kernel_rfl⟩
instance:TAgg Tryz.prog 224 3:=⟨⟨_,Tryz.underlying224,rfl⟩,by kernel_rfl⟩
instance:TFld Tryz.prog 224 1 1 4:=⟨⟨_,_,Tryz.underlying224,rfl,rfl,rfl⟩,q2t (k:=0) (by kernel_rfl)⟩
instance:TFld Tryz.prog 224 2 2 222:=⟨⟨_,_,Tryz.underlying224,rfl,rfl,rfl⟩,q2t (k:=0) (by kernel_rfl)⟩
instance:TMap Tryz.prog 225 3 224:=⟨Tryz.underlying225⟩
instance:TOne Tryz.prog 247:=⟨⟨_,Tryz.underlying247,rfl⟩,by kernel_rfl⟩
theorem inf249:(Tryz.prog.info? 249).map (fun i=>(i.zero,i.size,i.bytes))=some (some (.agg ([[.string ByteArray.empty],[.bool false],[.int .i64 0],[.int .i64 0]].flatten).toArray),4,40):=by kernel_rfl
instance:TZero Tryz.prog 249 [[.string ByteArray.empty],[.bool false],[.int .i64 0],[.int .i64 0]].flatten:=q2n inf249 (by rfl)
instance:TAgg Tryz.prog 249 4:=⟨⟨_,Tryz.underlying249,rfl⟩,q2w inf249⟩
instance:TFld Tryz.prog 249 0 0 9:=⟨⟨_,_,Tryz.underlying249,rfl,rfl,rfl⟩,q2t (k:=0) (by kernel_rfl)⟩
instance:TFld Tryz.prog 249 1 1 4:=⟨⟨_,_,Tryz.underlying249,rfl,rfl,rfl⟩,q2t (k:=0) (by kernel_rfl)⟩
instance:TFld Tryz.prog 249 2 2 3:=⟨⟨_,_,Tryz.underlying249,rfl,rfl,rfl⟩,q2t (k:=0) (by kernel_rfl)⟩
instance:TFld Tryz.prog 249 3 3 3:=⟨⟨_,_,Tryz.underlying249,rfl,rfl,rfl⟩,q2t (k:=0) (by kernel_rfl)⟩
instance:TSegs Tryz.prog 249 [[.string ByteArray.empty],[.bool false],[.int .i64 0],[.int .i64 0]]:=q3r Tryz.underlying249 (by kernel_rfl) (by kernel_rfl)
instance:TMap Tryz.prog 250 3 249:=⟨Tryz.underlying250⟩
instance:TSlice Tryz.prog 252 9:=⟨Tryz.underlying252⟩
instance:TSlice Tryz.prog 255 257:=⟨Tryz.underlying255⟩
theorem inf255:(Tryz.prog.info? 255).map (fun i=>(i.zero,i.size,i.bytes))=some (some (.slice none 0 0),1,24):=by kernel_rfl
instance:TZero Tryz.prog 255 [.slice none 0 0]:=q2n inf255 (by rfl)
instance:TSz Tryz.prog 255 1:=⟨q2w inf255⟩
instance:TElem Tryz.prog 255 1 24:=⟨_,inf255,rfl,by decide⟩
instance:TOne Tryz.prog 255:=⟨⟨_,Tryz.underlying255,rfl⟩,q2w inf255⟩
theorem inf257:(Tryz.prog.info? 257).map (fun i=>(i.zero,i.size,i.bytes))=some (some (.agg ([[.int .i64 0],[.int .i64 0],[.int .i64 0]].flatten).toArray),3,24):=by kernel_rfl
instance:TZero Tryz.prog 257 [[.int .i64 0],[.int .i64 0],[.int .i64 0]].flatten:=q2n inf257 (by rfl)
instance:TSz Tryz.prog 257 3:=⟨q2w inf257⟩
instance:TElem Tryz.prog 257 3 24:=⟨_,inf257,rfl,by decide⟩
instance:TAgg Tryz.prog 257 3:=⟨⟨_,Tryz.underlying257,rfl⟩,q2w inf257⟩
instance:TFld Tryz.prog 257 0 0 3:=⟨⟨_,_,Tryz.underlying257,rfl,rfl,rfl⟩,q2t (k:=0) (by kernel_rfl)⟩
instance:TFld Tryz.prog 257 1 1 3:=⟨⟨_,_,Tryz.underlying257,rfl,rfl,rfl⟩,q2t (k:=0) (by kernel_rfl)⟩
instance:TFld Tryz.prog 257 2 2 3:=⟨⟨_,_,Tryz.underlying257,rfl,rfl,rfl⟩,q2t (k:=0) (by kernel_rfl)⟩
instance:TSegs Tryz.prog 257 [[.int .i64 0],[.int .i64 0],[.int .i64 0]]:=q3r Tryz.underlying257 (by kernel_rfl) (by kernel_rfl)
instance:TArr Tryz.prog 291 64 195:=⟨Tryz.underlying291⟩
theorem inf291:(Tryz.prog.info? 291).map (fun i=>(i.zero,i.size,i.bytes))=some (some (.agg ((List.replicate 64 [.int .u32 0]).flatten).toArray),64,256):=by kernel_rfl
instance:TZero Tryz.prog 291 (List.replicate 64 [.int .u32 0]).flatten:=q2n inf291 (by rfl)
instance:TAgg Tryz.prog 291 64:=⟨⟨_,Tryz.underlying291,rfl⟩,q2w inf291⟩
instance:TSlice Tryz.prog 294 195:=⟨Tryz.underlying294⟩
theorem inf331:(Tryz.prog.info? 331).map (fun i=>(i.zero,i.size,i.bytes))=some (some (.map none),1,8):=by kernel_rfl
instance:TOne Tryz.prog 331:=⟨⟨_,Tryz.underlying331,rfl⟩,q2w inf331⟩
instance:TInt Tryz.prog 384 .u64:=⟨Tryz.underlying384⟩
theorem inf435:(Tryz.prog.info? 435).map (fun i=>(i.zero,i.size,i.bytes))=some (some (.agg ([[.int .i64 0],[.int .i64 0]].flatten).toArray),2,16):=by kernel_rfl
instance:TZero Tryz.prog 435 [[.int .i64 0],[.int .i64 0]].flatten:=q2n inf435 (by rfl)
instance:TAgg Tryz.prog 435 2:=⟨⟨_,Tryz.underlying435,rfl⟩,q2w inf435⟩
instance:TFld Tryz.prog 435 0 0 3:=⟨⟨_,_,Tryz.underlying435,rfl,rfl,rfl⟩,q2t (k:=0) (by kernel_rfl)⟩
instance:TFld Tryz.prog 435 1 1 3:=⟨⟨_,_,Tryz.underlying435,rfl,rfl,rfl⟩,q2t (k:=0) (by kernel_rfl)⟩
instance:TSegs Tryz.prog 435 [[.int .i64 0],[.int .i64 0]]:=q3r Tryz.underlying435 (by kernel_rfl) (by kernel_rfl)
end Go.Proofs.YtbolofkandcnlaaGreatDoor
namespace Go.Proofs.YtbolofkandcnlaaGreatDoor
open Go.RowKit Go.Proofs.K
def exC (a b:Nat):List Value:=[.int .u64 (a:Nat),.int .u64 (b:Nat)]
theorem q4t {a b:Nat}:∀ v∈exC a b,v.oneCell'=true:=by
  intro v hv;simp only [exC,List.mem_cons,List.not_mem_nil,or_false] at hv;rcases hv with rfl | rfl <;> rfl
instance:TEq Tryz.prog 23:=⟨by kernel_rfl,by kernel_rfl,.inr ⟨_,_,Tryz.underlying23⟩⟩
instance:TEq Tryz.prog 34:=⟨by kernel_rfl,by kernel_rfl,.inl ⟨_,Tryz.underlying34⟩⟩
def litsD (l:List Nat):List Lit:=l.map fun x:Nat=>.int .u8 (x:Int)
theorem kl_dig {l:List Nat} (h:l.length=32) (h8:∀ x∈l,x < 256):(Tryz.prog).keyLits 2 23 (ints .u8 l)=some (litsD l) :=
  Go.Proofs.K.keyLits_arr 0 (by kernel_rfl) (by kernel_rfl) h fun x hx=>wf_u8 (h8 x hx)
theorem kl_ex {a b:Nat} (ha:a < 18446744073709551616) (hb:b < 18446744073709551616):(Tryz.prog).keyLits 3 34 (exC a b)=some ([.int .u64 (a:Nat)]++[.int .u64 (b:Nat)]):=by
  refine q9i (D:=2) Tryz.underlying34 (by decide) (by decide) (by kernel_rfl) ?_ ?_
  · rw [show (Tryz.prog).cellsOf 32=1 by kernel_rfl];exact Go.Proofs.K.keyLits_int 1 (wf_u64 ha)
  · rw [show (Tryz.prog).cellsOf 32=1 by kernel_rfl];exact Go.Proofs.K.keyLits_int 1 (wf_u64 hb)
theorem litsD_inj {a b:List Nat}:litsD a=litsD b↔a=b:=lits_inj
theorem lits_ex {a b c d:Nat}:[Lit.int .u64 (a:Nat)]++[Lit.int .u64 (b:Nat)]=[Lit.int .u64 (c:Nat)]++[Lit.int .u64 (d:Nat)]↔a=c∧b=d:=by
  constructor
  · intro h;simp at h;omega
  · rintro ⟨rfl,rfl⟩;rfl
section
variable {n:NN} {f:Fr} {w:World} {d:Option Tmp} {t:TypeId} {pos:String} {af:Array Edge} {g:Option (Nat × Bool)} {x y:Operand}
theorem X_neqD {a b:List Nat} (ha:a.length=32) (hb:b.length=32) (ha8:∀ x∈a,x < 256) (hb8:∀ x∈b,x < 256) (hx:ev n f x=.agg (ints .u8 a).toArray) (hy:ev n f y=.agg (ints .u8 b).toArray) :
    X Tryz.prog n ⟨d,.binOp .neq 23 x y 23,t,pos,af,g⟩ f w=.ok (.value (.bool (decide (a ≠ b)))) w :=
  X_neqK hx hy (by rw [q0t,ha];kernel_rfl) (by rw [q0t,hb];kernel_rfl) (kl_dig ha ha8) (kl_dig hb hb8) (decide_eq_true_iff.trans (not_congr litsD_inj.symm))
theorem X_neqEx {a b a' b':Nat} (ha:a < 18446744073709551616) (hb:b < 18446744073709551616) (ha':a' < 18446744073709551616) (hb':b' < 18446744073709551616) (hx:ev n f x=.agg (exC a b).toArray) (hy:ev n f y=.agg (exC a' b').toArray) :
    X Tryz.prog n ⟨d,.binOp .neq 34 x y 34,t,pos,af,g⟩ f w=.ok (.value (.bool (decide (¬ (a=a'∧b=b'))))) w :=
  X_neqK hx hy (by kernel_rfl) (by kernel_rfl) (kl_ex ha hb) (kl_ex ha' hb') (decide_eq_true_iff.trans (not_congr lits_ex.symm))
end
section
variable {n:NN} {f:Fr} {w:World} {d:Option Tmp} {t:TypeId} {pos:String} {af:Array Edge} {g:Option (Nat × Bool)} {x y:Operand}
theorem X_mkEx {a b:Nat} (hx:ev n f x=.int .u64 (a:Nat)) (hy:ev n f y=.int .u64 (b:Nat)) :
    X Tryz.prog n ⟨d,.build 34 #[(0,x),(1,y)],t,pos,af,g⟩ f w=.ok (.value (.agg (exC a b).toArray)) w:=by
  have:=q1x (P:=Tryz.prog) (ty:=34) (n:=n) (f:=f) (w:=w) (d:=d) (t:=t) (pos:=pos) (af:=af) (g:=g) (Parts.cons (i:=0) (c:=[.int .u64 (a:Nat)]) (z:=[.int .u64 0]) hx rfl rfl rfl (Parts.cons (i:=1) (c:=[.int .u64 (b:Nat)]) (z:=[.int .u64 0]) hy rfl rfl rfl (Parts.nil _)));simpa [exC] using this
end
end Go.Proofs.YtbolofkandcnlaaGreatDoor
namespace Ce
abbrev EE:=Nat × Nat
abbrev pr:Nat:=18446744069414584321
def byN (n x:Nat):List Nat:=(List.range n).map fun i=>x / 256 ^ i % 256
def numN:List Nat→Nat
  | []=>0
  | b :: l=>b+256 * numN l
theorem byN_len (n x:Nat):(byN n x).length=n:=by simp [byN]
theorem byN_lt (n x:Nat):∀ b∈byN n x,b < 256:=fun b hb=>by
  obtain ⟨i,_,rfl⟩:=List.mem_map.1 hb;exact Nat.mod_lt _ (by decide)
theorem byN_succ (n x:Nat):byN (n+1) x=x % 256 :: byN n (x / 256):=by
  unfold byN;rw [List.range_succ_eq_map,List.map_cons,List.map_map,Nat.pow_zero,Nat.div_one];congr 1;apply List.map_congr_left;intro i _;show x / 256 ^ (i+1) % 256=x / 256 / 256 ^ i % 256;rw [Nat.pow_succ,Nat.mul_comm,Nat.div_div_eq_div_mul]
theorem num_by:∀ (n x:Nat),x < 256 ^ n→numN (byN n x)=x
  | 0,x,h=>by
    rw [Nat.pow_zero] at h;obtain rfl:x=0:=(by omega);rfl
  | n+1,x,h=>by
    rw [byN_succ];show x % 256+256 * numN (byN n (x / 256))=x;rw [num_by n (x / 256) (Nat.div_lt_of_lt_mul (by rw [Nat.pow_succ,Nat.mul_comm] at h;exact h))];have:=Nat.div_add_mod x 256;omega
theorem by_num:∀ (l:List Nat),(∀ b∈l,b < 256)→byN l.length (numN l)=l
  | [],_=>rfl
  | b :: l,h=>by
    have hb:=h b (List.mem_cons_self ..);rw [List.length_cons,byN_succ];show (b+256 * numN l) % 256 :: byN l.length ((b+256 * numN l) / 256)=b :: l;rw [show (b+256 * numN l) % 256=b by omega,show (b+256 * numN l) / 256=numN l by omega,by_num l fun x hx=>h x (List.mem_cons_of_mem _ hx)]
theorem num_lt:∀ (l:List Nat),(∀ b∈l,b < 256)→numN l < 256 ^ l.length
  | [],_=>by decide
  | b :: l,h=>by
    have hb:=h b (List.mem_cons_self ..);have:=num_lt l fun x hx=>h x (List.mem_cons_of_mem _ hx);rw [List.length_cons,Nat.pow_succ];show b+256 * numN l < _;omega
inductive Res (α:Type) where
  | err (e:Nat)
  | got (a:α) (r:List Nat)
abbrev Ps (α:Type):=List Nat→Res α
def Res.bind {α β:Type}:Res α→(α→Ps β)→Res β
  | .err e,_=>.err e
  | .got a r,f=>f a r
def Ps.bind {α β:Type} (p:Ps α) (f:α→Ps β):Ps β:=fun b=>(p b).bind f
def Ps.pure {α:Type} (a:α):Ps α:=fun b=>.got a b
def take (n:Nat):Ps (List Nat):=fun b=>if b.length < n then .err 6 else .got (b.take n) (b.drop n)
def num (n:Nat):Ps Nat:=(take n).bind fun l=>Ps.pure (numN l)
def chk {α:Type} (ok:α→Bool) (a:α):Ps α:=fun b=>if ok a then .got a b else .err 5
def rep {α:Type} (p:Ps α):Nat→Ps (List α)
  | 0=>Ps.pure []
  | n+1=>p.bind fun a=>(rep p n).bind fun l=>Ps.pure (a :: l)
def els {α:Type} (p:Ps α):Ps (List α):=(num 4).bind (rep p)
def mapP {α β:Type} (p:Ps α) (f:α→β):Ps β:=p.bind fun a=>Ps.pure (f a)
structure Cod (α:Type) where
  w:α→List Nat
  p:Ps α
  ok:α→Prop
structure Cod.Law {α:Type} (c:Cod α):Prop where
  back:∀ a,c.ok a→∀ r,c.p (c.w a++r)=.got a r
  inv:∀ b a r,(∀ y∈b,y < 256)→c.p b=.got a r→c.ok a∧b=c.w a++r
  short:∀ a,c.ok a→∀ t s,c.w a=t++s→s ≠ []→c.p t=.err 6
  byte:∀ a,c.ok a→∀ y∈c.w a,y < 256
def raw (n:Nat):Cod (List Nat):=⟨id,take n,fun l=>l.length=n∧∀ y∈l,y < 256⟩
theorem raw_law (n:Nat):(raw n).Law where
  back a h r:=by
    show take n (a++r)=_;unfold take;rw [if_neg (by rw [List.length_append,h.1];omega),← h.1,List.take_left,List.drop_left]
  inv b a r hb h:=by
    have h:take n b=.got a r:=h;unfold take at h;split at h
    · cases h
    · cases h
      refine ⟨⟨by rw [List.length_take];omega,fun y hy=>hb y (List.mem_of_mem_take hy)⟩,(List.take_append_drop n b).symm⟩
  short a h t s e hs:=by
    show take n t=_;have e:a=t++s:=e;have h1:a.length=t.length+s.length:=(by rw [e,List.length_append]);have h2:0 < s.length:=List.length_pos_iff.2 hs;have h3:=h.1;unfold take;rw [if_pos (by omega)]
  byte a h:=h.2
def Cod.iso {α β:Type} (c:Cod α) (f:α→β) (g:β→α):Cod β:=⟨fun b=>c.w (g b),mapP c.p f,fun b=>c.ok (g b)∧f (g b)=b⟩
theorem Cod.Law.iso {α β:Type} {c:Cod α} (h:c.Law) {f:α→β} {g:β→α} (hgf:∀ a,c.ok a→g (f a)=a):(c.iso f g).Law where
  back b hb r:=by
    show (c.p (c.w (g b)++r)).bind _=_;rw [h.back _ hb.1];show Res.got (f (g b)) r=_;rw [hb.2]
  inv b a r hb e:=by
    have e:(c.p b).bind (fun a=>Ps.pure (f a))=.got a r:=e;cases hp:c.p b with
    | err x=>rw [hp] at e;cases e
    | got x r' =>
      rw [hp] at e;obtain ⟨rfl,rfl⟩:=Res.got.inj e;obtain ⟨h1,h2⟩:=h.inv b x r' hb hp;refine ⟨⟨?_,?_⟩,?_⟩
      · show c.ok (g (f x));rw [hgf x h1];exact h1
      · show f (g (f x))=f x;rw [hgf x h1]
      · show b=c.w (g (f x))++r';rw [hgf x h1];exact h2
  short b hb t s e hs:=by
    show (c.p t).bind _=_;rw [h.short _ hb.1 t s e hs];rfl
  byte b hb:=h.byte _ hb.1
def Cod.test {α:Type} (c:Cod α) (f:α→Bool):Cod α:=⟨c.w,c.p.bind (chk f),fun a=>c.ok a∧f a=true⟩
theorem Cod.Law.test {α:Type} {c:Cod α} (h:c.Law) (f:α→Bool):(c.test f).Law where
  back a ha r:=by
    show (c.p (c.w a++r)).bind (chk f)=_;rw [h.back _ ha.1];show chk f a r=_;unfold chk;rw [if_pos ha.2]
  inv b a r hb e:=by
    have e:(c.p b).bind (chk f)=.got a r:=e;cases hp:c.p b with
    | err x=>rw [hp] at e;cases e
    | got x r' =>
      rw [hp] at e;have e:chk f x r'=.got a r:=e;unfold chk at e;split at e
      · rename_i hx;obtain ⟨rfl,rfl⟩:=Res.got.inj e;obtain ⟨h1,h2⟩:=h.inv b x r' hb hp;exact ⟨⟨h1,hx⟩,h2⟩
      · cases e
  short a ha t s e hs:=by
    show (c.p t).bind _=_;rw [h.short _ ha.1 t s e hs];rfl
  byte a ha:=h.byte _ ha.1
def Cod.seq {α β:Type} (c:Cod α) (d:Cod β):Cod (α × β):=⟨fun x=>c.w x.1++d.w x.2,c.p.bind fun a=>d.p.bind fun b=>Ps.pure (a,b),fun x=>c.ok x.1∧d.ok x.2⟩
theorem q8b {a b t s:List Nat} (e:a++b=t++s):(∃ u,u ≠ []∧a=t++u)∨∃ v,t=a++v∧b=v++s:=by
  rcases Nat.lt_or_ge t.length a.length with h | h
  · left;refine ⟨a.drop t.length,fun x=>?_,?_⟩
    · have:=congrArg List.length x;rw [List.length_drop] at this;simp at this;omega
    · have:t=a.take t.length:=by
        have h2:=congrArg (List.take t.length) e;rw [List.take_append_of_le_length (by omega),List.take_left] at h2;exact h2.symm
      conv=>lhs;rw [← List.take_append_drop t.length a]
      rw [← this]
  · right;refine ⟨t.drop a.length,?_,?_⟩
    · have:a=t.take a.length:=by
        have h2:=congrArg (List.take a.length) e;rw [List.take_append_of_le_length (l₂:=s) h,List.take_left] at h2;exact h2
      conv=>lhs;rw [← List.take_append_drop a.length t]
      rw [← this]
    · have h2:=congrArg (List.drop a.length) e;rw [List.drop_left,List.drop_append_of_le_length h] at h2;exact h2
theorem Cod.Law.seq {α β:Type} {c:Cod α} {d:Cod β} (h:c.Law) (k:d.Law):(c.seq d).Law where
  back x hx r:=by
    show (c.p (c.w x.1++d.w x.2++r)).bind _=_;rw [List.append_assoc,h.back _ hx.1];show (d.p (d.w x.2++r)).bind _=_;rw [k.back _ hx.2];rfl
  inv b x r hb e:=by
    have e:(c.p b).bind (fun a=>d.p.bind fun b=>Ps.pure (a,b))=.got x r:=e;cases hp:c.p b with
    | err y=>rw [hp] at e;cases e
    | got y r' =>
      rw [hp] at e;obtain ⟨h1,h2⟩:=h.inv b y r' hb hp;have e:(d.p r').bind (fun b=>Ps.pure (y,b))=.got x r:=e;cases hq:d.p r' with
      | err z=>rw [hq] at e;cases e
      | got z r'' =>
        rw [hq] at e;obtain ⟨rfl,rfl⟩:=Res.got.inj e;obtain ⟨h3,h4⟩:=k.inv r' z r'' (fun u hu=>hb u (by rw [h2];exact List.mem_append_right _ hu)) hq;exact ⟨⟨h1,h3⟩,by rw [h2,h4];exact (List.append_assoc ..).symm⟩
  short x hx t s e hs:=by
    have e:c.w x.1++d.w x.2=t++s:=e;show (c.p t).bind _=_;rcases q8b e with ⟨u,hu,e1⟩ | ⟨v,rfl,e2⟩
    · rw [h.short _ hx.1 t u e1 hu];rfl
    · rw [h.back _ hx.1];show (d.p v).bind _=_;rw [k.short _ hx.2 v s e2 hs];rfl
  byte x hx y hy:=(List.mem_append.1 hy).elim (h.byte _ hx.1 y) (k.byte _ hx.2 y)
def numC (n:Nat):Cod Nat:=(raw n).iso numN (byN n)
theorem q4b (n:Nat):(numC n).Law:=(raw_law n).iso fun a h=>by rw [← h.1];exact by_num a h.2
theorem q8c {n x:Nat} (h:x < 256 ^ n):(numC n).ok x:=⟨⟨byN_len n x,byN_lt n x⟩,num_by n x h⟩
theorem numC_lt {n x:Nat} (h:(numC n).ok x):x < 256 ^ n:=by
  have:=num_lt _ h.1.2;rw [h.2,h.1.1] at this;exact this
def repW {α:Type} (c:Cod α) (l:List α):List Nat:=l.flatMap c.w
theorem rep_back {α:Type} {c:Cod α} (h:c.Law):∀ (l:List α),(∀ a∈l,c.ok a)→∀ r,rep c.p l.length (repW c l++r)=.got l r
  | [],_,r=>rfl
  | a :: l,hl,r=>by
    show (c.p (c.w a++repW c l++r)).bind _=_;rw [List.append_assoc,h.back _ (hl a (List.mem_cons_self ..))];show (rep c.p l.length (repW c l++r)).bind _=_;rw [rep_back h l fun x hx=>hl x (List.mem_cons_of_mem _ hx)];rfl
theorem rep_inv {α:Type} {c:Cod α} (h:c.Law):∀ (n:Nat) (b:List Nat) (l:List α) (r:List Nat),(∀ y∈b,y < 256)→rep c.p n b=.got l r→l.length=n∧(∀ a∈l,c.ok a)∧b=repW c l++r
  | 0,b,l,r,_,e=>by
    cases e
    exact ⟨rfl,(fun _ h=>by cases h),rfl⟩
  | n+1,b,l,r,hb,e=>by
    have e:(c.p b).bind (fun a=>(rep c.p n).bind fun l=>Ps.pure (a :: l))=.got l r:=e;cases hp:c.p b with
    | err y=>rw [hp] at e;cases e
    | got y r' =>
      rw [hp] at e;obtain ⟨h1,h2⟩:=h.inv b y r' hb hp;have e:(rep c.p n r').bind (fun l=>Ps.pure (y :: l))=.got l r:=e;cases hq:rep c.p n r' with
      | err z=>rw [hq] at e;cases e
      | got z r'' =>
        rw [hq] at e;obtain ⟨rfl,rfl⟩:=Res.got.inj e;obtain ⟨h3,h4,h5⟩:=rep_inv h n r' z r'' (fun u hu=>hb u (by rw [h2];exact List.mem_append_right _ hu)) hq;refine ⟨by rw [List.length_cons,h3],fun a ha=>?_,?_⟩
        · rcases List.mem_cons.1 ha with rfl | ha
          · exact h1
          · exact h4 a ha
        · rw [h2,h5];show _=c.w y++repW c z++r'';rw [List.append_assoc]
theorem rep_short {α:Type} {c:Cod α} (h:c.Law):∀ (l:List α),(∀ a∈l,c.ok a)→∀ t s,repW c l=t++s→s ≠ []→rep c.p l.length t=.err 6
  | [],_,t,s,e,hs=>by
    have e:([]:List Nat)=t++s:=e;exact absurd (List.append_eq_nil_iff.1 e.symm).2 hs
  | a :: l,hl,t,s,e,hs=>by
    have e:c.w a++repW c l=t++s:=e;show (c.p t).bind _=_;have ha:=hl a (List.mem_cons_self ..);rcases q8b e with ⟨u,hu,e1⟩ | ⟨v,rfl,e2⟩
    · rw [h.short _ ha t u e1 hu];rfl
    · rw [h.back _ ha];show (rep c.p l.length v).bind _=_;rw [rep_short h l (fun x hx=>hl x (List.mem_cons_of_mem _ hx)) v s e2 hs];rfl
def lst {α:Type} (c:Cod α):Cod (List α):=⟨fun l=>byN 4 l.length++repW c l,els c.p,fun l=>l.length < 4294967296∧∀ a∈l,c.ok a⟩
theorem lst_law {α:Type} {c:Cod α} (h:c.Law):(lst c).Law where
  back l hl r:=by
    show ((num 4) (byN 4 l.length++repW c l++r)).bind _=_;rw [List.append_assoc,show (num 4) (byN 4 l.length++(repW c l++r))=.got l.length (repW c l++r) from (q4b 4).back _ (q8c (by have:=hl.1;omega)) _];exact rep_back h l hl.2 r
  inv b l r hb e:=by
    have e:((num 4) b).bind (rep c.p)=.got l r:=e;cases hp:(num 4) b with
    | err y=>rw [hp] at e;cases e
    | got n r' =>
      rw [hp] at e;obtain ⟨h1,h2⟩:=(q4b 4).inv b n r' hb hp;obtain ⟨h3,h4,h5⟩:=rep_inv h n r' l r (fun u hu=>hb u (by rw [h2];exact List.mem_append_right _ hu)) e;have h6:=numC_lt h1;refine ⟨⟨by rw [h3];omega,h4⟩,?_⟩;rw [h2,h5];show byN 4 n++_=byN 4 l.length++repW c l++r;rw [h3,List.append_assoc]
  short l hl t s e hs:=by
    have e:byN 4 l.length++repW c l=t++s:=e;show ((num 4) t).bind _=_;have hn:(numC 4).ok l.length:=q8c (by have:=hl.1;omega);rcases q8b e with ⟨u,hu,e1⟩ | ⟨v,rfl,e2⟩
    · rw [show (num 4) t=.err 6 from (q4b 4).short _ hn t u e1 hu];rfl
    · rw [show (num 4) (byN 4 l.length++v)=.got l.length v from (q4b 4).back _ hn v];exact rep_short h l hl.2 v s e2 hs
  byte l hl y hy:=by
    rcases List.mem_append.1 hy with hy | hy
    · exact byN_lt 4 _ y hy
    · obtain ⟨a,ha,hy⟩:=List.mem_flatMap.1 hy;exact h.byte a (hl.2 a ha) y hy
theorem z1j {α:Type} (p:Ps α) (n:Nat) (b:List Nat):rep p (n+1) b=(p b).bind fun a r=>(rep p n r).bind fun l=>Ps.pure (a :: l):=rfl
structure LP where
  rounds:List (List EE)
  left:EE
  right:EE
  line:List EE
structure Cert where
  q:List Nat
  log:Nat
  root:List Nat
  sR:Nat
  sC:Nat
  sB:Nat
  sT:Nat
  sums:List Nat
  rows:List (List EE)
  ps:List LP
  pz:List LP
  batch:List (List EE)
  v:EE
  orow:List EE
  ornd:List EE
  cols:List (List Nat)
  nodes:List (List Nat)
def byteC:Cod Nat:=numC 1
def wordC:Cod Nat:=(numC 8).test fun x=>decide (x < pr)
def extC:Cod EE:=((numC 8).seq (numC 8)).test fun x=>decide (x.1 < pr) && decide (x.2 < pr)
def roundC:Cod (List EE):=lst extC
def lpT:Cod (List (List EE) × EE × EE × List EE):=(lst roundC).seq (extC.seq (extC.seq roundC))
def lpC:Cod LP:=lpT.iso (fun x=>⟨x.1,x.2.1,x.2.2.1,x.2.2.2⟩) fun x=>(x.rounds,x.left,x.right,x.line)
abbrev T17:=List Nat × Nat × List Nat × Nat × Nat × Nat × Nat × List Nat × List (List EE) × List LP × List LP × List (List EE) × EE × List EE × List EE × List (List Nat) × List (List Nat)
def certT:Cod T17 :=
  (lst byteC).seq ((numC 4).seq ((raw 32).seq ((numC 4).seq ((numC 4).seq ((numC 4).seq ((numC 4).seq ((lst (numC 8)).seq ((lst roundC).seq ((lst lpC).seq ((lst lpC).seq ((lst roundC).seq (extC.seq (roundC.seq (roundC.seq ((lst (lst wordC)).seq (lst (raw 32)))))))))))))))))
def ofT (x:T17):Cert :=
  ⟨x.1,x.2.1,x.2.2.1,x.2.2.2.1,x.2.2.2.2.1,x.2.2.2.2.2.1,x.2.2.2.2.2.2.1,x.2.2.2.2.2.2.2.1,x.2.2.2.2.2.2.2.2.1,x.2.2.2.2.2.2.2.2.2.1,x.2.2.2.2.2.2.2.2.2.2.1,x.2.2.2.2.2.2.2.2.2.2.2.1,x.2.2.2.2.2.2.2.2.2.2.2.2.1,x.2.2.2.2.2.2.2.2.2.2.2.2.2.1,x.2.2.2.2.2.2.2.2.2.2.2.2.2.2.1,x.2.2.2.2.2.2.2.2.2.2.2.2.2.2.2.1,x.2.2.2.2.2.2.2.2.2.2.2.2.2.2.2.2⟩
def toT (c:Cert):T17:=(c.q,c.log,c.root,c.sR,c.sC,c.sB,c.sT,c.sums,c.rows,c.ps,c.pz,c.batch,c.v,c.orow,c.ornd,c.cols,c.nodes)
def certC:Cod Cert:=certT.iso ofT toT
theorem byteC_law:byteC.Law:=q4b 1
theorem wordC_law:wordC.Law:=(q4b 8).test _
theorem z1l:extC.Law:=((q4b 8).seq (q4b 8)).test _
theorem q5v:roundC.Law:=lst_law z1l
theorem lpC_law:lpC.Law:=((lst_law q5v).seq (z1l.seq (z1l.seq q5v))).iso fun _ _=>rfl
theorem certT_law:certT.Law :=
  (lst_law byteC_law).seq ((q4b 4).seq ((raw_law 32).seq ((q4b 4).seq ((q4b 4).seq ((q4b 4).seq ((q4b 4).seq ((lst_law (q4b 8)).seq ((lst_law q5v).seq ((lst_law lpC_law).seq ((lst_law lpC_law).seq ((lst_law q5v).seq (z1l.seq (q5v.seq (q5v.seq ((lst_law (lst_law wordC_law)).seq (lst_law (raw_law 32)))))))))))))))))
theorem z0a:certC.Law:=certT_law.iso fun _ _=>rfl
inductive Ans where
  | err (e:Nat)
  | ok (c:Cert)
def decode (b:List Nat):Ans :=
  if 65536 < b.length then .err 2 else
  match certC.p b with
  | .err e=>.err e
  | .got c r=>if r=[] then .ok c else .err 5
theorem decode_encode {c:Cert} (h:certC.ok c) (hl:(certC.w c).length≤65536):decode (certC.w c)=.ok c:=by
  unfold decode;rw [if_neg (by omega)];have:=z0a.back c h [];rw [List.append_nil] at this;rw [this];rfl
theorem encode_decode {b:List Nat} {c:Cert} (hb:∀ y∈b,y < 256) (h:decode b=.ok c):certC.ok c∧certC.w c=b:=by
  unfold decode at h;split at h
  · cases h
  · cases hp:certC.p b with
    | err e=>rw [hp] at h;cases h
    | got x r =>
      rw [hp] at h;dsimp only at h;split at h
      · rename_i hr;cases h
        obtain ⟨h1,h2⟩:=z0a.inv b _ r hb hp;rw [hr,List.append_nil] at h2;exact ⟨h1,h2.symm⟩
      · cases h
theorem decode_suffix {c:Cert} (h:certC.ok c) {s:List Nat} (hl:(certC.w c++s).length≤65536) (hs:s ≠ []):decode (certC.w c++s)=.err 5:=by
  unfold decode;rw [if_neg (by omega),z0a.back c h];dsimp only;rw [if_neg hs]
def Only {α:Type} (p:Ps α):Prop:=∀ b e,p b=.err e→e=5∨e=6
theorem z1w (n:Nat):Only (take n):=fun b e h=>by
  unfold take at h;split at h
  · cases h;exact .inr rfl
  · cases h
theorem q6w {α:Type} (a:α):Only (Ps.pure a):=fun b e h=>by cases h
theorem q4k {α β:Type} {p:Ps α} {f:α→Ps β} (h:Only p) (k:∀ a,Only (f a)):Only (p.bind f):=fun b e he=>by
  have he:(p b).bind f=.err e:=he;cases hp:p b with
  | err x=>rw [hp] at he;cases he;exact h b _ hp
  | got x r=>rw [hp] at he;exact k x r e he
theorem only_chk {α:Type} (f:α→Bool) (a:α):Only (chk f a):=fun b e h=>by
  unfold chk at h;split at h
  · cases h
  · cases h;exact .inl rfl
theorem only_rep {α:Type} {p:Ps α} (h:Only p):∀ n,Only (rep p n)
  | 0=>q6w _
  | n+1=>q4k h fun _=>q4k (only_rep h n) fun _=>q6w _
theorem q4y (n:Nat):Only (num n):=q4k (z1w n) fun _=>q6w _
theorem q4z {α:Type} {p:Ps α} (h:Only p):Only (els p):=q4k (q4y 4) (only_rep h)
theorem q3c {α β:Type} {c:Cod α} {d:Cod β} (h:Only c.p) (k:Only d.p):Only (c.seq d).p:=q4k h fun _=>q4k k fun _=>q6w _
theorem z1k:Only extC.p:=q4k (q3c (q4y 8) (q4y 8)) fun _=>only_chk _ _
theorem q5w:Only roundC.p:=q4z z1k
theorem only_lp:Only lpC.p:=q4k (q3c (d:=extC.seq (extC.seq roundC)) (q4z q5w) (q3c z1k (q3c z1k q5w))) fun _=>q6w _
theorem only_word:Only wordC.p:=q4k (q4y 8) fun _=>only_chk _ _
theorem only_cert:Only certC.p :=
  q4k (q3c (c:=lst byteC) (q4z (q4y 1)) (q3c (q4y 4) (q3c (z1w 32) (q3c (q4y 4) (q3c (q4y 4) (q3c (q4y 4) (q3c (q4y 4) (q3c (c:=lst (numC 8)) (q4z (q4y 8)) (q3c (c:=lst roundC) (q4z q5w) (q3c (c:=lst lpC) (q4z only_lp) (q3c (c:=lst lpC) (q4z only_lp) (q3c (c:=lst roundC) (q4z q5w) (q3c z1k (q3c q5w (q3c q5w (q3c (c:=lst (lst wordC)) (q4z (q4z only_word)) (q4z (z1w 32)))))))))))))))))) fun _=>q6w _
end Ce
namespace Go.Proofs.YtbolofkandcnlaaGreatDoor
open Go.RowKit Go.Proofs.K
theorem _root_.Go.Proofs.K.RowN.keep {N:Nat→Prop} {a b:World} {size m:Nat} {v:Value} {xs:List Value} {B g:Nat} {T:TypeId} (h:RowN N a size v m xs) (k:KeepTy B g T a b) (hN:∀ q,N q→q ≠ g∧q < B):RowN N b size v m xs:=by
  obtain ⟨lo,hi,h1,h2⟩:=h;refine ⟨lo,hi,h1,?_⟩;obtain ⟨hl,A,c,rfl,hc,hm,hn⟩:=h2;refine ⟨hl,A,c,rfl,hc,hm,fun h0=>?_⟩;obtain ⟨b0,o,rfl,k1,k2,k3⟩:=hn h0;have hb:=hN b0 (h1 b0 k1 k2);exact ⟨b0,o,rfl,k1,k2,fun j u hu=>k.cell (by dsimp only;exact hb.1) (by dsimp only;exact hb.2) (k3 j u hu)⟩
abbrev Rep (α:Type):=(Nat→Prop)→World→List Value→α→Prop
structure Rep.Ok {α:Type} (R:Rep α):Prop where
  mono:∀ {N N':Nat→Prop} {w:World} {x:List Value} {a:α},R N w x a→(∀ k,N k→N' k)→R N' w x a
  grown:∀ {N:Nat→Prop} {w w':World} {x:List Value} {a:α} {row:Option Nat},R N w x a→w.grownBy w' row→(∀ q,row=some q→¬ N q)→R N w' x a
  keep:∀ {N:Nat→Prop} {w w':World} {x:List Value} {a:α} {B g:Nat} {T:TypeId},R N w x a→KeepTy B g T w w'→(∀ q,N q→q ≠ g∧q < B)→R N w' x a
  tight:∀ {N:Nat→Prop} {w:World} {x:List Value} {a:α},R N w x a→R (fun k=>N k∧k < w.heap.size) w x a
  one:∀ {N:Nat→Prop} {w:World} {x:List Value} {a:α},R N w x a→∀ v∈x,v.oneCell'=true
theorem Rep.Ok.ext {α:Type} {R:Rep α} (h:R.Ok) {N:Nat→Prop} {w w':World} {x:List Value} {a:α} (hr:R N w x a) (E:Ext w w'):R N w' x a:=h.grown hr (E.row none) (fun _ h=>by cases h)
def numR (k:IntKind):Rep Nat:=fun _ _ x a=>x=[.int k (a:Nat)]
theorem q1y (k:IntKind):(numR k).Ok:=⟨fun h _=>h,fun h _ _=>h,fun h _ _=>h,fun h=>h,fun h v hv=>by
  have h:_=[_]:=h
  subst h
  simp at hv
  subst hv
  rfl⟩
def exR:Rep (Nat × Nat):=fun _ _ x p=>x=exC p.1 p.2
theorem q3p:exR.Ok:=⟨fun h _=>h,fun h _ _=>h,fun h _ _=>h,fun h=>h,fun h v hv=>by
  have h:_=exC _ _:=h
  subst h
  exact q4t v hv⟩
def byR (n:Nat):Rep (List Nat):=fun _ _ x l=>x=ints .u8 l∧l.length=n
theorem z0c (n:Nat):(byR n).Ok:=⟨fun h _=>h,fun h _ _=>h,fun h _ _=>h,fun h=>h,fun h v hv=>by
  obtain ⟨rfl,_⟩:=h
  exact q0w v hv⟩
def slR {α:Type} (size:Nat) (R:Rep α):Rep (List α):=fun N w x l =>
  ∃ v,x=[v]∧∃ ys:List (List Value),ys.length=l.length∧(∀ y∈ys,y.length=size)∧RowN N w size v l.length ys.flatten∧∀ (i:Nat) (y:List Value) (a:α),ys[i]?=some y→l[i]?=some a→R N w y a
theorem q1j {α:Type} {size:Nat} (hs:0 < size) {R:Rep α} (h:R.Ok):(slR size R).Ok where
  mono:=fun ⟨v,hx,ys,h1,h2,h3,h4⟩ hN=>⟨v,hx,ys,h1,h2,h3.mono hN,fun i y a hy ha=>h.mono (h4 i y a hy ha) hN⟩
  grown:=fun ⟨v,hx,ys,h1,h2,h3,h4⟩ hg hr=>⟨v,hx,ys,h1,h2,h3.grown hg hr,fun i y a hy ha=>h.grown (h4 i y a hy ha) hg hr⟩
  keep:=fun ⟨v,hx,ys,h1,h2,h3,h4⟩ hg hr=>⟨v,hx,ys,h1,h2,h3.keep hg hr,fun i y a hy ha=>h.keep (h4 i y a hy ha) hg hr⟩
  tight:=fun ⟨v,hx,ys,h1,h2,h3,h4⟩=>⟨v,hx,ys,h1,h2,h3.tight hs,fun i y a hy ha=>h.tight (h4 i y a hy ha)⟩
  one:=fun ⟨v,hx,ys,h1,h2,h3,h4⟩ u hu=>by
    subst hx;simp at hu;subst hu;exact h3.cell1
theorem flat_at {size:Nat}:∀ {ys:List (List Value)} (_:∀ y∈ys,y.length=size) {i:Nat} {y:List Value},ys[i]?=some y→∀ {j:Nat},j < size→ys.flatten[i * size+j]?=y[j]?
  | [],_,_,_,h,_,_=>by cases h
  | z :: ys,hl,0,y,h,j,hj=>by
    obtain rfl:z=y:=(by simpa using h);have:=hl z (List.mem_cons_self ..);rw [List.flatten_cons,Nat.zero_mul,Nat.zero_add,List.getElem?_append_left (by omega)]
  | z :: ys,hl,i+1,y,h,j,hj=>by
    have h1:=hl z (List.mem_cons_self ..);have h2:ys[i]?=some y:=(by simpa using h);rw [List.flatten_cons,Nat.succ_mul,List.getElem?_append_right (by omega),show i * size+size+j - z.length=i * size+j by omega];exact flat_at (fun y hy=>hl y (List.mem_cons_of_mem _ hy)) h2 hj
theorem q2z {α:Type} {size:Nat} {R:Rep α} {N:Nat→Prop} {w:World} {v:Value} {l:List α} (h:slR size R N w [v] l) {i:Nat} {a:α} (hi:l[i]?=some a) :
    ∃ b o c y,v=.slice (some ⟨b,o,none⟩) l.length c∧l.length≤c∧c≤maxLen∧y.length=size∧w.rangeAt b (o+i * size) y∧R N w y a:=by
  obtain ⟨v',hv,ys,h1,h2,h3,h4⟩:=h;obtain rfl:v=v':=by simpa using hv
  have hlt:=(List.getElem?_eq_some_iff.1 hi).1;obtain ⟨y,hy⟩:∃ y,ys[i]?=some y:=⟨_,List.getElem?_eq_getElem (by omega)⟩;obtain ⟨b,o,c,rfl,k1,k2,_,k3⟩:=h3.at hlt;have hyl:=h2 y (List.mem_of_getElem? hy);refine ⟨b,o,c,y,rfl,k1,k2,hyl,fun j u hu=>?_,h4 i y a hy hi⟩;have hj:=(List.getElem?_eq_some_iff.1 hu).1;have:=k3 (i * size+j) u (by rw [flat_at h2 hy (by omega)];exact hu);rw [Nat.add_assoc];exact this
theorem q1o {α:Type} {size:Nat} {R:Rep α} {N:Nat→Prop} {w:World} {x:List Value} {l:List α} (h:slR size R N w x l):∃ A c,x=[.slice A l.length c]∧l.length≤c∧c≤maxLen:=by
  obtain ⟨v,rfl,ys,h1,h2,h3,h4⟩:=h;obtain ⟨A,c,rfl,k1,k2⟩:=h3.form;exact ⟨A,c,rfl,k1,k2⟩
theorem q1n {α:Type} {size:Nat} {R:Rep α} {N:Nat→Prop} {w:World}:slR size R N w [.slice none 0 0] [] :=
  ⟨_,rfl,[],rfl,(fun _ h=>by cases h),⟨0,0,fun _ _ h=>absurd h (by omega),Row.nil _ _ _ _⟩,fun _ _ _ h=>by cases h⟩
theorem q8n {k:IntKind} {N:Nat→Prop} {w:World} {v:Value} {l:List Nat} (h:RowN N w 1 v l.length (ints k l)):slR 1 (numR k) N w [v] l:=by
  refine ⟨v,rfl,(ints k l).map fun u=>[u],by rw [List.length_map,q0t],fun y hy=>?_,?_,fun i y a hy ha=>?_⟩
  · obtain ⟨u,_,rfl⟩:=List.mem_map.1 hy;rfl
  · have:((ints k l).map fun u=>[u]).flatten=ints k l:=by
      induction ints k l with
      | nil=>rfl
      | cons a l ih=>rw [List.map_cons,List.flatten_cons,ih];rfl
    rw [this];exact h
  · rw [List.getElem?_map] at hy;obtain ⟨u,hu,rfl⟩:=Option.map_eq_some_iff.1 hy;have hlt:=(List.getElem?_eq_some_iff.1 ha).1;rw [q8p hlt] at hu;obtain rfl:=Option.some.inj hu;show [_]=[_];rw [List.getD_eq_getElem?_getD,ha];rfl
def lpR:Rep Ce.LP:=fun N w x p=>∃ a b,x=[a,.int .u64 (p.left.1:Nat),.int .u64 (p.left.2:Nat),.int .u64 (p.right.1:Nat),.int .u64 (p.right.2:Nat),b]∧slR 1 (slR 2 exR) N w [a] p.rounds∧slR 2 exR N w [b] p.line
theorem q0y:(slR 2 exR).Ok:=q1j (by decide) q3p
theorem q1i:(slR 1 (slR 2 exR)).Ok:=q1j (by decide) q0y
theorem q4v:lpR.Ok where
  mono:=fun ⟨a,b,hx,h1,h2⟩ hN=>⟨a,b,hx,q1i.mono h1 hN,q0y.mono h2 hN⟩
  grown:=fun ⟨a,b,hx,h1,h2⟩ hg hr=>⟨a,b,hx,q1i.grown h1 hg hr,q0y.grown h2 hg hr⟩
  keep:=fun ⟨a,b,hx,h1,h2⟩ hg hr=>⟨a,b,hx,q1i.keep h1 hg hr,q0y.keep h2 hg hr⟩
  tight:=fun ⟨a,b,hx,h1,h2⟩=>⟨a,b,hx,q1i.tight h1,q0y.tight h2⟩
  one:=fun ⟨a,b,hx,h1,h2⟩ v hv=>by
    subst hx;have ha:=q1i.one h1 a (List.mem_singleton.2 rfl);have hb:=q0y.one h2 b (List.mem_singleton.2 rfl);simp at hv;rcases hv with rfl | rfl | rfl | rfl | rfl | rfl <;> first | rfl | assumption
theorem q1t:(slR 6 lpR).Ok:=q1j (by decide) q4v
theorem q3u:(slR 1 (slR 1 (numR .u64))).Ok:=q1j (by decide) (q1j (by decide) (q1y _))
theorem q4n:(slR 32 (byR 32)).Ok:=q1j (by decide) (z0c _)
end Go.Proofs.YtbolofkandcnlaaGreatDoor
namespace Go.Proofs.K
open Go.RowKit
theorem shr_nat (x:Nat) (m:Int) (h:0≤m∧m≤64):(x:Int).fdiv (2 ^ (min m.toNat 64))=((x / 2 ^ m.toNat:Nat):Int):=by
  rw [Nat.min_eq_left (by omega),Int.fdiv_eq_ediv_of_nonneg _ (by exact Int.le_of_lt (Int.pow_pos (by omega)))];simp
theorem z1b (x:Nat):IntKind.u8.wrap (x:Int)=((x % 256:Nat):Int):=by rw [IntKind.wrap_u8];omega
theorem q3m (x:Nat):IntKind.u64.wrap (x:Int)=((x % 18446744073709551616:Nat):Int):=by rw [IntKind.wrap_u64];omega
def z0b (x k:Nat):Nat:=x / 256 ^ k % 256
def word (x k:Nat):List Nat:=(List.range k).map (z0b x)
def bv (b:Nat):Value:=.int .u8 (b:Nat)
def bvs (l:List Nat):List Value:=l.map bv
theorem word_succ (x k:Nat):word x (k+1)=word x k++[z0b x k]:=by simp [word,List.range_succ]
theorem q4s (x k:Nat):(word x k).length=k:=by simp [word]
theorem bvs_app (a b:List Nat):bvs (a++b)=bvs a++bvs b:=by simp [bvs]
theorem bvs_one (a:Nat):bvs [a]=[.int .u8 (a:Nat)]:=rfl
theorem shr_byte (x k:Nat) (hk:k≤7):IntKind.u8.wrap ((x:Int).fdiv (2 ^ min ((8:Int) * (k:Nat)).toNat IntKind.u64.bits))=((z0b x k:Nat):Int):=by
  have e:IntKind.u64.bits=64:=rfl;rw [e,shr_nat x _ (by omega),z1b];have:((8:Int) * (k:Nat)).toNat=8 * k:=by omega
  rw [this,z0b,show (256:Nat)=2 ^ 8 from rfl,← Nat.pow_mul]
section
variable {R:Nat→World→World→Prop} {P:Program} {n:NN} {ops:Array Oper} {A:Nat→World→Prop} {Fin:List Oper→(Rho→Fr)→(Rho→Nat→World→Prop)→Prop} {rest:List Oper} {k:Nat} {E:List Ent} {g:Rho→Fr} {H:Rho→Nat→World→Prop} {d:Tmp} {op:Op} {t:TypeId} {pos:String} {af:Array Edge}
theorem DW_dr {F:Rho→Value→World→Prop} (hX:∀ r w,A k w→(∀ j,td ops k j=true→H r j w)→∃ v w',X P n ⟨some d,op,t,pos,af,none⟩ (g r) w=.ok (.value v) w'∧R k w w'∧F r v w') (hF:∀ i r v w w',i ≠ k→td ops k i=false→R i w w'→F r v w→F r v w')
    (hi:∀ r v,F (rset r k v)=F r)
    (hr:DW R P n ops A Fin rest (k+1) E (fun r=>upd (g r) d (r k)) (fun r j w=>bif Nat.beq j k then F r (r k) w else H r j w)):DW R P n ops A Fin (⟨some d,op,t,pos,af,none⟩ :: rest) k (.op (fun r w=>F r (r k) w) :: E) g H:=by
  refine .op (fun r w hA hH=>⟨rfl,?_⟩) (fun i r w w' h1 h2 hE h=>hF i _ _ _ _ h1 h2 hE h) hr;obtain ⟨v,w',h1,h2,h3⟩:=hX r w hA hH;exact q9n h1 ⟨h2,by rw [q5y,hi];exact h3⟩
theorem DW_app {w0:World} {bl:Option Nat} {size bytes m q base:Nat} {ty e:TypeId} {v:Value} {xs ys:List Value} {x y:Operand} {kx:Nat} [TSlice P ty e] [hz:TElem P e size bytes]
    (hx:∀ r,ev n (g r) x=v) (hy:∀ r,ev n (g r) y=r kx) (hk:td ops k kx=true) (hbl:v.ownBlock=bl) (hA:∀ w,A k w→w.ownsRow base e size v m xs∧base≤w.heap.size) (hrow:∀ r w,H r kx w→RowF w0 size (r kx) q ys w)
    (h1:∀ q∈ys,q.oneCell'=true) (hb:(m+q) * bytes≤140737488355328) (hm:m+q≤9223372036854775807)
    (hr:DW (RA k bl e size m) P n ops A Fin rest (k+1) E (fun r=>upd (g r) d (r k)) (fun r j w=>bif Nat.beq j k then w.ownsRow base e size (r k) (m+q) (xs++ys) else H r j w)) :
    DW (RA k bl e size m) P n ops A Fin (⟨some d,.call ⟨.builtin .append,#[x,y],#[ty,ty]⟩,t,pos,af,none⟩ :: rest) k (.op (fun r w=>w.ownsRow base e size (r k) (m+q) (xs++ys)) :: E) g H:=by
  obtain ⟨z,h0,hzs,hsz⟩:=hz.h;haveI:TInfo P e size bytes z:=⟨h0⟩;refine DW_dr (F:=fun _ u w=>w.ownsRow base e size u (m+q) (xs++ys)) ?_ ?_ (fun _ _=>rfl) hr
  · intro r w hAw hH;obtain ⟨lo,hi,_,hR⟩:=hrow r w (hH kx hk);obtain ⟨ho,hbs⟩:=hA w hAw;obtain ⟨v',w',hX,h2,h3,_,h5⟩:=q9g (P:=P) (ty:=t) (t:=ty) hzs hsz ho hR h1 hb hm hbs;exact ⟨v',w',z0f (hx r) (hy r) hX,.inr ⟨rfl,hbl ▸ h3,h5⟩,h2⟩
  · exact fun i r u w w' hi _ hR hF=>q1p hF (hR.other hi)
end
end Go.Proofs.K
namespace Go.Proofs.YtbolofkandcnlaaGreatDoor
open Go.RowKit Go.Proofs.K
structure EncAt (B p:Nat) (w:World) (l:List Nat):Prop where
  h:∃ v,Blk w p 87 [v]∧w.ownsRow B 5 1 v l.length (ints .u8 l)
structure EncK (B p:Nat) (w w':World):Prop where
  k:KeepTy B p 5 w w'
  e:∀ w0,Ext w0 w→w0.heap.size≤p→w0.heap.size≤B→Ext w0 w'
theorem EncK.refl (B p:Nat) (w:World):EncK B p w w:=⟨KeepTy.refl w,fun _ E _ _=>E⟩
theorem EncK.of_ext {B p:Nat} {w w':World} (E:Ext w w'):EncK B p w w':=⟨KeepTy.of_ext E,fun _ F _ _=>F.trans E⟩
theorem EncK.trans {B p:Nat} {a b c:World} (h:EncK B p a b) (k:EncK B p b c):EncK B p a c:=⟨h.k.trans k.k,fun w0 E h1 h2=>k.e w0 (h.e w0 E h1 h2) h1 h2⟩
theorem EncK.own {B p m:Nat} {v:Value} {xs:List Value} {w w':World} (ho:w.ownsRow B 5 1 v m xs) (G:w.grownBy w' v.ownBlock):EncK B p w w' :=
  ⟨KeepTy.of_grown G fun q hq=>.inr (z0s ho q hq),fun _ E _ h2=>E.then G fun q hq=>Nat.le_trans h2 (z0s ho q hq).1⟩
theorem EncK.set {B p:Nat} {w w':World} (G:w.grownBy w' (some p)):EncK B p w w' :=
  ⟨KeepTy.of_grown G fun q hq=>.inl (Option.some.inj hq).symm,fun w0 E h1 _=>E.then G fun q hq=>by cases hq;exact h1⟩
theorem q2a {w:World} {lo hi size m:Nat} {v:Value} {xs:List Value} (h:Row w lo hi size v m xs):v.oneCell'=true:=by obtain ⟨_,_,_,rfl,_⟩:=h;rfl
theorem z2t {B p m:Nat} {v u:Value} {xs:List Value} {w:World} (ho:w.ownsRow B 5 1 v m xs) (hb:Blk w p 87 [u]):∀ q,v.ownBlock=some q→q ≠ p:=by
  rintro q hq rfl;obtain ⟨_,cs,fz,h⟩:=z0s ho q hq;have h':w.heap[q]?=some (.cells _ _ _):=hb;rw [h] at h';cases h'
theorem byN_snoc (n x:Nat):Ce.byN (n+1) x=Ce.byN n x++[x / 256 ^ n % 256]:=by
  unfold Ce.byN;rw [List.range_succ,List.map_append];rfl
set_option maxHeartbeats 1000000 in
theorem gfixed (B p n x:Nat) (l:List Nat) (w:World) (_:x < 18446744073709551616) (hn:n≤8) (hl:l.length≤100000000) (hB:B≤w.heap.size) (he:EncAt B p w l) :
    Calls Tryz.prog 85 #[.pointer (some ⟨p,0,none⟩),.int .u64 (x:Nat),.int .i64 (n:Nat)] w fun e w'=>e=.returned (.tuple #[])∧EncAt B p w' (l++Ce.byN n x)∧EncK B p w w':=by
  refine q0l Tryz.func85 rfl Tryz.ntmps85 rfl ?_;(refine q0b<|q0a<|m_I rfl<|m_I rfl<|q0c<|tn<|q0j ?_);refine q1k (fun q f w'=>∃ k,q=n - k∧k≤n∧f 0=.pointer (some ⟨p,0,none⟩)∧f 1=.int .u64 (x:Nat)∧f 7=.int .i64 (n:Nat)∧f 8=.int .i64 (k:Nat)∧B≤w'.heap.size∧EncAt B p w' (l++Ce.byN k x)∧EncK B p w w') n ?_ ?_
  · exact ⟨0,rfl,by omega,rfl,rfl,rfl,rfl,hB,by rw [show Ce.byN 0 x=[] from rfl,List.append_nil];exact he,EncK.refl _ _ _⟩
  · rintro q f w1 ⟨k,hq,hk,f0,f1,f7,f8,hB1,⟨v,bv,ov⟩,hK⟩;rw [fold f0,fold f1,fold f7,fold f8];have hne:=z2t ov bv;(refine q0b<|q0a<|Ls (q1w rfl rfl)<|q0c<|tn<|q0b ?_);refine q1d rfl (fun h=>?_) (fun h=>?_)
    · have hk7:k≤7:=(by omega);have hlen:(l++Ce.byN k x).length+1≤100000100:=(by rw [List.length_append,Ce.byN_len];omega);(refine q0o<|tn<|q0b<|q0j<|q0b<|q0a<|m_I rfl<|a_I rfl<|q0c<|tn ?_);obtain ⟨xs,hxs⟩:∃ xs,xs=l++Ce.byN k x:=⟨_,rfl⟩;rw [← hxs] at ov hlen;have hv1:=q2a (Row.of_own ov);have BA:∀ {u:World},AA w1 v.ownBlock B 5 1 v xs.length (ints .u8 xs) u→Blk u p 87 [v]:=fun hA=>bv.grown hA.g (fun h=>hne _ h rfl);apply z3e (R:=RA 11 v.ownBlock 5 1 xs.length) (AA w1 v.ownBlock B 5 1 v xs.length (ints .u8 xs)) 12 (by kernel_rfl) (RA.refl _ _ _ _ _) (AA.new ov) AA.step;(apply DW_x (fun r w hA hH=>(q0d (v:=.pointer _) rfl).trans rfl);apply DW_x (fun r w hA hH=>(q0d (v:=.pointer _) rfl).trans rfl);apply DW_x (fun r w hA hH=>(q1l rfl).trans rfl);apply DW_x (fun r w hA hH=>(q0g rfl).trans rfl);apply DW_x (fun r w hA hH=>(X_ld rfl (BA hA) rfl).trans rfl);apply DW_x (fun r w hA hH=>(q0d (v:=.int _ _) rfl).trans rfl);apply DW_x (fun r w hA hH=>(q0d (v:=.int _ _) rfl).trans rfl);apply DW_x (fun r w hA hH=>(q3q rfl rfl (by omega)).trans rfl);apply DW_x (fun r w hA hH=>(q4g rfl rfl (by omega)).trans rfl);apply DW_x (fun r w hA hH=>((q1q rfl).trans (by rw [shr_byte x k hk7])).trans rfl));have hgl:∀ q,v.ownBlock=some q→q < w1.heap.size:=fun q hq=>by
        obtain ⟨_,cs,fz,h⟩:=z0s ov q hq;exact (Array.getElem?_eq_some_iff.1 h).1
      with_reducible apply DW_d (F:=fun _ u w'=>RowF w1 1 u 1 (ints .u8 [z0b x k]) w')
      exact fun r u hA hH=>⟨_,_,z3c rfl rfl,q1m _ _,RowF.lit u _ _ hA.g.size 1 rfl (by unfold maxLen;omega)⟩;exact fun i r u a b hi _ hR ⟨lo,hi,e1,e2⟩=>⟨lo,hi,e1,e2.grown hR.grown fun q hq=>.inl (Nat.lt_of_lt_of_le (hgl q hq) e1)⟩;exact fun r u=>rfl;with_reducible apply DW_app (w0:=w1) (v:=v) (kx:=10) (q:=1) (size:=1) (bytes:=1) (m:=xs.length) (base:=B) (xs:=ints .u8 xs) (ys:=ints .u8 [z0b x k])
      exact fun r=>rfl;exact fun r=>rfl;kernel_rfl;rfl;exact fun u hA=>⟨hA.o,Nat.le_trans hB1 hA.g.size⟩;exact fun r u h=>h;exact fun q hq=>(by rw [List.mem_singleton.1 hq];rfl);omega;omega;((with_reducible exact q2e);(exact rfl);(repeat (first | exact .inr (.inr (fun _ _=>by with_reducible rfl)) | (refine And.intro ?_ ?_) | exact .inr (.inl rfl) | exact .inl (by decide +kernel) | exact trivial | exact .inr (.inr (fun _ _=>rfl))));(try dsimp only [Nat.reduceAdd]));intro r w2 hA H;have o2:w2.ownsRow B 5 1 (r 11) (xs.length+1) (ints .u8 xs++ints .u8 [z0b x k]):=H 11;have b2:=BA hA;have hB2:=hA.g.size;have hK2:EncK B p w w2:=hK.trans (EncK.own ov hA.g);generalize r 11=v2 at *;have hv2:=q2a (Row.of_own o2);(refine Ls (q1l rfl)<|Ls (q0g rfl) ?_);refine q1a (v:=v2) rfl rfl hv2 b2 (by simp) ?_;intro w3 b3 hg3 _;have hne2:=z2t o2 b2;have o3:=q5k o2 hg3 fun q hq e=>hne2 q hq (Option.some.inj e).symm;(refine q0c<|bn<|tn<|q0a<|Ls (q1e rfl rfl (by omega))<|m_I rfl<|q0c<|tn ?_);refine ⟨n - (k+1),by omega,k+1,rfl,by omega,rfl,rfl,rfl,rfl,Nat.le_trans (Nat.le_trans hB1 hB2) hg3.size,⟨v2,b3,?_⟩,hK2.trans (EncK.set hg3)⟩;rw [byN_snoc,← List.append_assoc,← hxs,q2i,List.length_append];exact o3
    · have hk8:k=n:=(by omega);subst hk8;(refine q1b<|te<|te<|bx ?_);refine q1z rfl rfl ?_;exact ⟨rfl,⟨v,bv,ov⟩,hK⟩
end Go.Proofs.YtbolofkandcnlaaGreatDoor
namespace Go.Proofs.YtbolofkandcnlaaGreatDoor
open Go.Proofs.K
instance:TFun Tryz.prog 4:=q0s Tryz.func4 (by kernel_rfl) (by kernel_rfl)
instance:TFun Tryz.prog 5:=q0s Tryz.func5 (by kernel_rfl) (by kernel_rfl)
instance:TFun Tryz.prog 6:=q0s Tryz.func6 (by kernel_rfl) (by kernel_rfl)
instance:TFun Tryz.prog 7:=q0s Tryz.func7 (by kernel_rfl) (by kernel_rfl)
instance:TFun Tryz.prog 8:=q0s Tryz.func8 (by kernel_rfl) (by kernel_rfl)
instance:TFun Tryz.prog 9:=q0s Tryz.func9 (by kernel_rfl) (by kernel_rfl)
instance:TFun Tryz.prog 10:=q0s Tryz.func10 (by kernel_rfl) (by kernel_rfl)
instance:TFun Tryz.prog 11:=q0s Tryz.func11 (by kernel_rfl) (by kernel_rfl)
instance:TFun Tryz.prog 12:=q0s Tryz.func12 (by kernel_rfl) (by kernel_rfl)
instance:TFun Tryz.prog 13:=q0s Tryz.func13 (by kernel_rfl) (by kernel_rfl)
instance:TFun Tryz.prog 14:=q0s Tryz.func14 (by kernel_rfl) (by kernel_rfl)
instance:TFun Tryz.prog 15:=q0s Tryz.func15 (by kernel_rfl) (by kernel_rfl)
instance:TFun Tryz.prog 16:=q0s Tryz.func16 (by kernel_rfl) (by kernel_rfl)
instance:TFun Tryz.prog 17:=q0s Tryz.func17 (by kernel_rfl) (by kernel_rfl)
instance:TFun Tryz.prog 18:=q0s Tryz.func18 (by kernel_rfl) (by kernel_rfl)
instance:TFun Tryz.prog 19:=q0s Tryz.func19 (by kernel_rfl) (by kernel_rfl)
instance:TFun Tryz.prog 20:=q0s Tryz.func20 (by kernel_rfl) (by kernel_rfl)
instance:TFun Tryz.prog 21:=q0s Tryz.func21 (by kernel_rfl) (by kernel_rfl)
instance:TFun Tryz.prog 22:=q0s Tryz.func22 (by kernel_rfl) (by kernel_rfl)
instance:TFun Tryz.prog 23:=q0s Tryz.func23 (by kernel_rfl) (by kernel_rfl)
instance:TFun Tryz.prog 24:=q0s Tryz.func24 (by kernel_rfl) (by kernel_rfl)
instance:TFun Tryz.prog 25:=q0s Tryz.func25 (by kernel_rfl) (by kernel_rfl)
instance:TFun Tryz.prog 26:=q0s Tryz.func26 (by kernel_rfl) (by kernel_rfl)
instance:TFun Tryz.prog 27:=q0s Tryz.func27 (by kernel_rfl) (by kernel_rfl)
instance:TFun Tryz.prog 28:=q0s Tryz.func28 (by kernel_rfl) (by kernel_rfl)
instance:TFun Tryz.prog 29:=q0s Tryz.func29 (by kernel_rfl) (by kernel_rfl)
instance:TFun Tryz.prog 30:=q0s Tryz.func30 (by kernel_rfl) (by kernel_rfl)
instance:TFun Tryz.prog 31:=q0s Tryz.func31 (by kernel_rfl) (by kernel_rfl)
instance:TFun Tryz.prog 32:=q0s Tryz.func32 (by kernel_rfl) (by kernel_rfl)
instance:TFun Tryz.prog 33:=q0s Tryz.func33 (by kernel_rfl) (by kernel_rfl)
instance:TFun Tryz.prog 34:=q0s Tryz.func34 (by kernel_rfl) (by kernel_rfl)
instance:TFun Tryz.prog 35:=q0s Tryz.func35 (by kernel_rfl) (by kernel_rfl)
instance:TFun Tryz.prog 36:=q0s Tryz.func36 (by kernel_rfl) (by kernel_rfl)
instance:TFun Tryz.prog 37:=q0s Tryz.func37 (by kernel_rfl) (by kernel_rfl)
instance:TFun Tryz.prog 38:=q0s Tryz.func38 (by kernel_rfl) (by kernel_rfl)
instance:TFun Tryz.prog 39:=q0s Tryz.func39 (by kernel_rfl) (by kernel_rfl)
instance:TFun Tryz.prog 40:=q0s Tryz.func40 (by kernel_rfl) (by kernel_rfl)
instance:TFun Tryz.prog 41:=q0s Tryz.func41 (by kernel_rfl) (by kernel_rfl)
instance:TFun Tryz.prog 42:=q0s Tryz.func42 (by kernel_rfl) (by kernel_rfl)
instance:TFun Tryz.prog 43:=q0s Tryz.func43 (by kernel_rfl) (by kernel_rfl)
instance:TFun Tryz.prog 44:=q0s Tryz.func44 (by kernel_rfl) (by kernel_rfl)
instance:TFun Tryz.prog 45:=q0s Tryz.func45 (by kernel_rfl) (by kernel_rfl)
instance:TFun Tryz.prog 46:=q0s Tryz.func46 (by kernel_rfl) (by kernel_rfl)
instance:TFun Tryz.prog 47:=q0s Tryz.func47 (by kernel_rfl) (by kernel_rfl)
instance:TFun Tryz.prog 48:=q0s Tryz.func48 (by kernel_rfl) (by kernel_rfl)
instance:TFun Tryz.prog 49:=q0s Tryz.func49 (by kernel_rfl) (by kernel_rfl)
instance:TFun Tryz.prog 50:=q0s Tryz.func50 (by kernel_rfl) (by kernel_rfl)
instance:TFun Tryz.prog 51:=q0s Tryz.func51 (by kernel_rfl) (by kernel_rfl)
instance:TFun Tryz.prog 52:=q0s Tryz.func52 (by kernel_rfl) (by kernel_rfl)
instance:TFun Tryz.prog 53:=q0s Tryz.func53 (by kernel_rfl) (by kernel_rfl)
instance:TFun Tryz.prog 54:=q0s Tryz.func54 (by kernel_rfl) (by kernel_rfl)
instance:TFun Tryz.prog 55:=q0s Tryz.func55 (by kernel_rfl) (by kernel_rfl)
instance:TFun Tryz.prog 56:=q0s Tryz.func56 (by kernel_rfl) (by kernel_rfl)
instance:TFun Tryz.prog 57:=q0s Tryz.func57 (by kernel_rfl) (by kernel_rfl)
instance:TFun Tryz.prog 58:=q0s Tryz.func58 (by kernel_rfl) (by kernel_rfl)
instance:TFun Tryz.prog 59:=q0s Tryz.func59 (by kernel_rfl) (by kernel_rfl)
instance:TFun Tryz.prog 60:=q0s Tryz.func60 (by kernel_rfl) (by kernel_rfl)
instance:TFun Tryz.prog 61:=q0s Tryz.func61 (by kernel_rfl) (by kernel_rfl)
instance:TFun Tryz.prog 62:=q0s Tryz.func62 (by kernel_rfl) (by kernel_rfl)
instance:TFun Tryz.prog 63:=q0s Tryz.func63 (by kernel_rfl) (by kernel_rfl)
instance:TFun Tryz.prog 64:=q0s Tryz.func64 (by kernel_rfl) (by kernel_rfl)
instance:TFun Tryz.prog 65:=q0s Tryz.func65 (by kernel_rfl) (by kernel_rfl)
instance:TFun Tryz.prog 66:=q0s Tryz.func66 (by kernel_rfl) (by kernel_rfl)
instance:TFun Tryz.prog 67:=q0s Tryz.func67 (by kernel_rfl) (by kernel_rfl)
instance:TFun Tryz.prog 68:=q0s Tryz.func68 (by kernel_rfl) (by kernel_rfl)
instance:TFun Tryz.prog 69:=q0s Tryz.func69 (by kernel_rfl) (by kernel_rfl)
instance:TFun Tryz.prog 70:=q0s Tryz.func70 (by kernel_rfl) (by kernel_rfl)
instance:TFun Tryz.prog 71:=q0s Tryz.func71 (by kernel_rfl) (by kernel_rfl)
instance:TFun Tryz.prog 72:=q0s Tryz.func72 (by kernel_rfl) (by kernel_rfl)
instance:TFun Tryz.prog 73:=q0s Tryz.func73 (by kernel_rfl) (by kernel_rfl)
instance:TFun Tryz.prog 74:=q0s Tryz.func74 (by kernel_rfl) (by kernel_rfl)
instance:TFun Tryz.prog 75:=q0s Tryz.func75 (by kernel_rfl) (by kernel_rfl)
instance:TFun Tryz.prog 76:=q0s Tryz.func76 (by kernel_rfl) (by kernel_rfl)
instance:TFun Tryz.prog 77:=q0s Tryz.func77 (by kernel_rfl) (by kernel_rfl)
instance:TFun Tryz.prog 78:=q0s Tryz.func78 (by kernel_rfl) (by kernel_rfl)
instance:TFun Tryz.prog 79:=q0s Tryz.func79 (by kernel_rfl) (by kernel_rfl)
instance:TFun Tryz.prog 80:=q0s Tryz.func80 (by kernel_rfl) (by kernel_rfl)
instance:TFun Tryz.prog 81:=q0s Tryz.func81 (by kernel_rfl) (by kernel_rfl)
instance:TFun Tryz.prog 82:=q0s Tryz.func82 (by kernel_rfl) (by kernel_rfl)
instance:TFun Tryz.prog 83:=q0s Tryz.func83 (by kernel_rfl) (by kernel_rfl)
instance:TFun Tryz.prog 84:=q0s Tryz.func84 (by kernel_rfl) (by kernel_rfl)
instance:TFun Tryz.prog 85:=q0s Tryz.func85 (by kernel_rfl) (by kernel_rfl)
instance:TFun Tryz.prog 86:=q0s Tryz.func86 (by kernel_rfl) (by kernel_rfl)
instance:TFun Tryz.prog 87:=q0s Tryz.func87 (by kernel_rfl) (by kernel_rfl)
instance:TFun Tryz.prog 88:=q0s Tryz.func88 (by kernel_rfl) (by kernel_rfl)
instance:TFun Tryz.prog 89:=q0s Tryz.func89 (by kernel_rfl) (by kernel_rfl)
instance:TFun Tryz.prog 90:=q0s Tryz.func90 (by kernel_rfl) (by kernel_rfl)
instance:TFun Tryz.prog 91:=q0s Tryz.func91 (by kernel_rfl) (by kernel_rfl)
instance:TFun Tryz.prog 92:=q0s Tryz.func92 (by kernel_rfl) (by kernel_rfl)
instance:TFun Tryz.prog 93:=q0s Tryz.func93 (by kernel_rfl) (by kernel_rfl)
instance:TFun Tryz.prog 94:=q0s Tryz.func94 (by kernel_rfl) (by kernel_rfl)
instance:TFun Tryz.prog 95:=q0s Tryz.func95 (by kernel_rfl) (by kernel_rfl)
instance:TFun Tryz.prog 96:=q0s Tryz.func96 (by kernel_rfl) (by kernel_rfl)
instance:TFun Tryz.prog 101:=q0s Tryz.func101 (by kernel_rfl) (by kernel_rfl)
instance:TFun Tryz.prog 102:=q0s Tryz.func102 (by kernel_rfl) (by kernel_rfl)
instance:TFun Tryz.prog 113:=q0s Tryz.func113 (by kernel_rfl) (by kernel_rfl)
instance:TFun Tryz.prog 114:=q0s Tryz.func114 (by kernel_rfl) (by kernel_rfl)
instance:TFun Tryz.prog 115:=q0s Tryz.func115 (by kernel_rfl) (by kernel_rfl)
instance:TFun Tryz.prog 116:=q0s Tryz.func116 (by kernel_rfl) (by kernel_rfl)
instance:TFun Tryz.prog 117:=q0s Tryz.func117 (by kernel_rfl) (by kernel_rfl)
instance:TFun Tryz.prog 118:=q0s Tryz.func118 (by kernel_rfl) (by kernel_rfl)
instance:TFun Tryz.prog 119:=q0s Tryz.func119 (by kernel_rfl) (by kernel_rfl)
instance:TFun Tryz.prog 120:=q0s Tryz.func120 (by kernel_rfl) (by kernel_rfl)
instance:TFun Tryz.prog 121:=q0s Tryz.func121 (by kernel_rfl) (by kernel_rfl)
instance:TFun Tryz.prog 122:=q0s Tryz.func122 (by kernel_rfl) (by kernel_rfl)
instance:TFun Tryz.prog 123:=q0s Tryz.func123 (by kernel_rfl) (by kernel_rfl)
instance:TFun Tryz.prog 124:=q0s Tryz.func124 (by kernel_rfl) (by kernel_rfl)
instance:TFun Tryz.prog 125:=q0s Tryz.func125 (by kernel_rfl) (by kernel_rfl)
instance:TFun Tryz.prog 126:=q0s Tryz.func126 (by kernel_rfl) (by kernel_rfl)
instance:TFun Tryz.prog 137:=q0s Tryz.func137 (by kernel_rfl) (by kernel_rfl)
instance:TFun Tryz.prog 138:=q0s Tryz.func138 (by kernel_rfl) (by kernel_rfl)
instance:TFun Tryz.prog 139:=q0s Tryz.func139 (by kernel_rfl) (by kernel_rfl)
instance:TFun Tryz.prog 140:=q0s Tryz.func140 (by kernel_rfl) (by kernel_rfl)
instance:TFun Tryz.prog 141:=q0s Tryz.func141 (by kernel_rfl) (by kernel_rfl)
instance:TFun Tryz.prog 142:=q0s Tryz.func142 (by kernel_rfl) (by kernel_rfl)
instance:TFun Tryz.prog 158:=q0s Tryz.func158 (by kernel_rfl) (by kernel_rfl)
instance:TFun Tryz.prog 159:=q0s Tryz.func159 (by kernel_rfl) (by kernel_rfl)
instance:TFun Tryz.prog 176:=q0s Tryz.func176 (by kernel_rfl) (by kernel_rfl)
instance:TFun Tryz.prog 177:=q0s Tryz.func177 (by kernel_rfl) (by kernel_rfl)
instance:TFun Tryz.prog 178:=q0s Tryz.func178 (by kernel_rfl) (by kernel_rfl)
instance:TFun Tryz.prog 179:=q0s Tryz.func179 (by kernel_rfl) (by kernel_rfl)
instance:TFun Tryz.prog 180:=q0s Tryz.func180 (by kernel_rfl) (by kernel_rfl)
instance:TFun Tryz.prog 181:=q0s Tryz.func181 (by kernel_rfl) (by kernel_rfl)
instance:TFun Tryz.prog 197:=q0s Tryz.func197 (by kernel_rfl) (by kernel_rfl)
instance:TFun Tryz.prog 198:=q0s Tryz.func198 (by kernel_rfl) (by kernel_rfl)
instance:TFun Tryz.prog 199:=q0s Tryz.func199 (by kernel_rfl) (by kernel_rfl)
instance:TFun Tryz.prog 200:=q0s Tryz.func200 (by kernel_rfl) (by kernel_rfl)
instance:TFun Tryz.prog 201:=q0s Tryz.func201 (by kernel_rfl) (by kernel_rfl)
instance:TFun Tryz.prog 202:=q0s Tryz.func202 (by kernel_rfl) (by kernel_rfl)
instance:TFun Tryz.prog 203:=q0s Tryz.func203 (by kernel_rfl) (by kernel_rfl)
instance:TFun Tryz.prog 204:=q0s Tryz.func204 (by kernel_rfl) (by kernel_rfl)
instance:TFun Tryz.prog 205:=q0s Tryz.func205 (by kernel_rfl) (by kernel_rfl)
instance:TFun Tryz.prog 206:=q0s Tryz.func206 (by kernel_rfl) (by kernel_rfl)
instance:TFun Tryz.prog 207:=q0s Tryz.func207 (by kernel_rfl) (by kernel_rfl)
instance:TFun Tryz.prog 208:=q0s Tryz.func208 (by kernel_rfl) (by kernel_rfl)
instance:TFun Tryz.prog 209:=q0s Tryz.func209 (by kernel_rfl) (by kernel_rfl)
instance:TFun Tryz.prog 210:=q0s Tryz.func210 (by kernel_rfl) (by kernel_rfl)
instance:TFun Tryz.prog 211:=q0s Tryz.func211 (by kernel_rfl) (by kernel_rfl)
instance:TFun Tryz.prog 300:=q0s Tryz.func300 (by kernel_rfl) (by kernel_rfl)
instance:TFun Tryz.prog 301:=q0s Tryz.func301 (by kernel_rfl) (by kernel_rfl)
instance:TFun Tryz.prog 304:=q0s Tryz.func304 (by kernel_rfl) (by kernel_rfl)
instance:TFun Tryz.prog 305:=q0s Tryz.func305 (by kernel_rfl) (by kernel_rfl)
instance:TFun Tryz.prog 306:=q0s Tryz.func306 (by kernel_rfl) (by kernel_rfl)
instance:TFun Tryz.prog 307:=q0s Tryz.func307 (by kernel_rfl) (by kernel_rfl)
instance:TFun Tryz.prog 308:=q0s Tryz.func308 (by kernel_rfl) (by kernel_rfl)
instance:TFun Tryz.prog 309:=q0s Tryz.func309 (by kernel_rfl) (by kernel_rfl)
instance:TFun Tryz.prog 372:=q0s Tryz.func372 (by kernel_rfl) (by kernel_rfl)
instance:TFun Tryz.prog 373:=q0s Tryz.func373 (by kernel_rfl) (by kernel_rfl)
instance:TFun Tryz.prog 374:=q0s Tryz.func374 (by kernel_rfl) (by kernel_rfl)
instance:TFun Tryz.prog 377:=q0s Tryz.func377 (by kernel_rfl) (by kernel_rfl)
instance:TFun Tryz.prog 435:=q0s Tryz.func435 (by kernel_rfl) (by kernel_rfl)
instance:TFun Tryz.prog 436:=q0s Tryz.func436 (by kernel_rfl) (by kernel_rfl)
end Go.Proofs.YtbolofkandcnlaaGreatDoor
namespace Go.Proofs.YtbolofkandcnlaaGreatDoor
open Go.RowKit Go.Proofs.K
def EncR (B p:Nat) (l bs:List Nat) (w:World) (e:Ending) (w':World):Prop:=e=.returned (.tuple #[])∧EncAt B p w' (l++bs)∧EncK B p w w'
set_option maxHeartbeats 1000000 in
theorem gint (B p x:Nat) (l:List Nat) (w:World) (hx:x < 4294967296) (hl:l.length≤100000000) (hB:B≤w.heap.size) (he:EncAt B p w l) :
    Calls Tryz.prog 33 #[.pointer (some ⟨p,0,none⟩),.int .i64 (x:Nat)] w (EncR B p l (Ce.byN 4 x) w):=by
  refine q0l Tryz.func33 rfl Tryz.ntmps33 rfl ?_;(refine q0a<|m_P rfl<|m_I rfl<|Ls ((q1q rfl).trans (by rw [q3m,Nat.mod_eq_of_lt (show x < 18446744073709551616 by omega)])) ?_);refine L_fn (gfixed B p 4 x l w (by omega) (by omega) hl hB he) rfl ?_;rintro e w2 ⟨rfl,h2,k2⟩;refine ⟨_,rfl,?_⟩;(refine q0c ?_);refine q1z rfl rfl ?_;exact ⟨rfl,h2,k2⟩
set_option maxHeartbeats 1000000 in
theorem gword (B p x:Nat) (l:List Nat) (w:World) (hx:x < 18446744073709551616) (hl:l.length≤100000000) (hB:B≤w.heap.size) (he:EncAt B p w l) :
    Calls Tryz.prog 86 #[.pointer (some ⟨p,0,none⟩),.int .u64 (x:Nat)] w (EncR B p l (Ce.byN 8 x) w):=by
  refine q0l Tryz.func86 rfl Tryz.ntmps86 rfl ?_;(refine q0a<|m_P rfl<|m_I rfl ?_);refine L_fn (gfixed B p 8 x l w (by omega) (by omega) hl hB he) rfl ?_;rintro e w2 ⟨rfl,h2,k2⟩;refine ⟨_,rfl,?_⟩;(refine q0c ?_);refine q1z rfl rfl ?_;exact ⟨rfl,h2,k2⟩
def u64v (x:Int):Nat:=(x % 18446744073709551616).toNat
theorem u64v_lt (x:Int):u64v x < 18446744073709551616:=by unfold u64v;omega
theorem u64v_wrap (x:Int):IntKind.u64.wrap x=((u64v x:Nat):Int):=by
  unfold u64v;rw [IntKind.wrap_u64];omega
set_option maxHeartbeats 1000000 in
theorem gsum (B p:Nat) (x:Int) (l:List Nat) (w:World) (hl:l.length≤100000000) (hB:B≤w.heap.size) (he:EncAt B p w l) :
    Calls Tryz.prog 36 #[.pointer (some ⟨p,0,none⟩),.int .i64 x] w (EncR B p l (Ce.byN 8 (u64v x)) w):=by
  refine q0l Tryz.func36 rfl Tryz.ntmps36 rfl ?_;(refine q0a<|m_P rfl<|m_I rfl<|Ls ((q1q rfl).trans (by rw [u64v_wrap])) ?_);refine L_fn (gfixed B p 8 (u64v x) l w (u64v_lt x) (by omega) hl hB he) rfl ?_;rintro e w2 ⟨rfl,h2,k2⟩;refine ⟨_,rfl,?_⟩;(refine q0c ?_);refine q1z rfl rfl ?_;exact ⟨rfl,h2,k2⟩
theorem EncAt.ext {B p:Nat} {l:List Nat} {w w':World} (h:EncAt B p w l) (E:Ext w w'):EncAt B p w' l:=by
  obtain ⟨v,b,o⟩:=h;exact ⟨v,b.ext E,q1p o E⟩
theorem EncAt.lt {B p:Nat} {l:List Nat} {w:World} (h:EncAt B p w l):p < w.heap.size:=by
  obtain ⟨v,b,o⟩:=h;exact q2x b
set_option maxHeartbeats 1000000 in
theorem gext (B p x y:Nat) (l:List Nat) (w:World) (hx:x < 18446744073709551616) (hy:y < 18446744073709551616) (hl:l.length≤99999992) (hB:B≤w.heap.size) (he:EncAt B p w l) :
    Calls Tryz.prog 41 #[.pointer (some ⟨p,0,none⟩),.agg (exC x y).toArray] w (EncR B p l (Ce.byN 8 x++Ce.byN 8 y) w):=by
  refine q0l Tryz.func41 rfl Tryz.ntmps41 rfl ?_;have hp:=he.lt;(refine q0b<|q0a ?_);refine q3t (l:=exC x y) rfl ?_;intro g2 w2 B2 hg2 E2 hs2;(refine q0c<|tn<|q0b<|q0a<|m_P rfl<|Ls (q0g rfl)<|Ls (X_ld rfl B2 rfl) ?_);refine L_fn (gword B p x l w2 hx (by omega) (Nat.le_trans hB E2.size) (he.ext E2)) rfl ?_;rintro e w3 ⟨rfl,h3,k3⟩;refine ⟨_,rfl,?_⟩;have B3:=k3.k.blk B2 (by omega) (.inr (by decide));have hl3:(l++Ce.byN 8 x).length≤100000000:=by rw [List.length_append,Ce.byN_len];omega
  (refine q0c<|tn<|q0a<|m_P rfl<|Ls (q0g rfl)<|Ls (X_ld rfl B3 rfl) ?_);refine L_fn (gword B p y (l++Ce.byN 8 x) w3 hy hl3 (Nat.le_trans (Nat.le_trans hB E2.size) k3.k.size) h3) rfl ?_;rintro e w4 ⟨rfl,h4,k4⟩;refine ⟨_,rfl,?_⟩;(refine q0c ?_);refine q1z rfl rfl ?_;refine ⟨rfl,?_,(EncK.of_ext E2).trans (k3.trans k4)⟩;rw [← List.append_assoc];exact h4
set_option maxHeartbeats 1000000 in
theorem gbyte (B p x:Nat) (l:List Nat) (w:World) (hl:l.length≤100000000) (hB:B≤w.heap.size) (he:EncAt B p w l) :
    Calls Tryz.prog 32 #[.pointer (some ⟨p,0,none⟩),.int .u8 (x:Nat)] w (EncR B p l [x] w):=by
  refine q0l Tryz.func32 rfl Tryz.ntmps32 rfl ?_;obtain ⟨v,bv,ov⟩:=he;have hv1:=q2a (Row.of_own ov);(refine q0a<|m_P rfl<|m_P rfl<|Ls (q1l rfl)<|Ls (q0g rfl)<|Ls (X_ld rfl bv rfl)<|m_I rfl ?_);refine q3z (v:=.int .u8 _) rfl rfl ?_;intro u2 w2 r2 E2 hs2 _;refine q1c (v:=v) (u:=u2) rfl rfl (q1p ov E2) r2 (fun q hq=>by rw [List.mem_singleton.1 hq];rfl) (by omega) (by omega) (by have:=E2.size;omega) ?_;intro v3 w3 o3 hg3 _;have o2:=q1p ov E2;have b3:=(bv.ext E2).grown hg3 fun h=>z2t o2 (bv.ext E2) _ h rfl;have hv3:=q2a (Row.of_own o3);(refine Ls (q1l rfl)<|Ls (q0g rfl) ?_);refine q1a (v:=v3) rfl rfl hv3 b3 (by simp) ?_;intro w4 b4 hg4 _;have hne:=z2t o3 b3;have o4:=q5k o3 hg4 fun q hq e=>hne q hq (Option.some.inj e).symm;(refine q0c ?_);refine q1z rfl rfl ?_;refine ⟨rfl,⟨v3,b4,?_⟩,(EncK.of_ext E2).trans ((EncK.own o2 hg3).trans (EncK.set hg4))⟩;rw [q2i,List.length_append];exact o4
def Far (N:Nat→Prop) (B p:Nat):Prop:=∀ q,N q→q ≠ p∧q < B
def q8z (id:FuncId) (first cap:Array Value) (B p:Nat) (N:Nat→Prop) {α:Type} (R:Rep α) (arg:List Value→Value) (bs:α→List Nat) (l:List α) (w0:World):Prop :=
  ∀ (i:Nat) (a:α),l[i]?=some a→∀ (w:World) (x:List Value) (l0:List Nat),EncK B p w0 w→R N w x a→l0.length+(bs a).length≤99999000→B≤w.heap.size→EncAt B p w l0→Calls Tryz.prog id (first++#[arg x]++cap) w (EncR B p l0 (bs a) w)
theorem q6o {α:Type} (bs:α→List Nat) (l:List α) (i:Nat) (a:α) (h:l[i]?=some a):((l.take i).flatMap bs).length+(bs a).length≤(l.flatMap bs).length:=by
  have e:l.flatMap bs=(l.take i).flatMap bs++(bs a++(l.drop (i+1)).flatMap bs):=by
    have hlt:=(List.getElem?_eq_some_iff.1 h).1;have ha:=(List.getElem?_eq_some_iff.1 h).2;conv=>lhs;rw [← List.take_append_drop i l]
    rw [List.flatMap_append,List.drop_eq_getElem_cons hlt,List.flatMap_cons,ha]
  rw [e,List.length_append,List.length_append];omega
theorem q5a {α:Type} (bs:α→List Nat) (l:List α) (i:Nat) (a:α) (h:l[i]?=some a):(l.take (i+1)).flatMap bs=(l.take i).flatMap bs++bs a:=by
  rw [List.take_add_one,h,List.flatMap_append];simp
set_option maxRecDepth 100000 in
set_option maxHeartbeats 1000000 in
theorem gslR {α:Type} {R:Rep α} (hR:R.Ok) (id:FuncId) [TFun Tryz.prog id] (first cap:Array Value) (B p:Nat) (N:Nat→Prop) (bs:α→List Nat) (l:List α) (v:Value) (l0:List Nat) (w:World) (hN:Far N B p)
    (hf:q8z id first cap B p N R (fun x=>x.headD .nilIface) bs l w) (hv:slR 1 R N w [v] l) (hl:l.length < 4294967296) (hb:l0.length+4+(l.flatMap bs).length≤99999000) (hB:B≤w.heap.size) (he:EncAt B p w l0) :
    Calls Tryz.prog 37 #[.pointer (some ⟨p,0,none⟩),v,.func (.func id) first cap] w (EncR B p l0 (Ce.byN 4 l.length++l.flatMap bs) w):=by
  refine q0l Tryz.func37 rfl Tryz.ntmps37 rfl ?_;obtain ⟨A,c,e,hc,hcm⟩:=q1o hv;obtain rfl:v=.slice A l.length c:=by simpa using e
  (refine q0b<|q0a<|m_P rfl<|m_S rfl<|Ls (q0h rfl) ?_);refine L_fn (gint B p l.length l0 w hl (by omega) hB he) rfl ?_;rintro e w2 ⟨rfl,h2,k2⟩;refine ⟨_,rfl,?_⟩;(refine q0c<|tn<|q0b<|q0a<|m_S rfl<|Ls (q0h rfl)<|m_I rfl<|q0c<|tn<|q0j ?_);refine q1k (fun q f w'=>∃ i,q=l.length - i∧i≤l.length∧f 2=.func (.func id) first cap∧f 12=.slice A l.length c∧f 13=.int .i64 (l.length:Nat)∧f 14=.int .i64 (i:Nat)∧EncAt B p w' (l0++Ce.byN 4 l.length++(l.take i).flatMap bs)∧EncK B p w w') l.length ?_ ?_
  · exact ⟨0,rfl,by omega,rfl,rfl,rfl,rfl,by simpa using h2,k2⟩
  · rintro q f w3 ⟨i,rfl,hi,f2,f12,f13,f14,h3,k3⟩;rw [fold f2,fold f12,fold f13,fold f14];(refine q0b<|q0a<|Ls (q1w rfl rfl)<|q0c<|tn<|q0b ?_);refine q1d rfl (fun h=>?_) (fun h=>?_)
    · have hi':i < l.length:=(by omega);obtain ⟨a,ha⟩:∃ a,l[i]?=some a:=⟨_,List.getElem?_eq_getElem hi'⟩;have hv3:=(q1j (by decide) hR).keep hv k3.k hN;obtain ⟨b,o,c',y,e,_,_,hy,hcell,hya⟩:=q2z hv3 ha;cases e
      have hfl:=q6o bs l i a ha;have hlen:(l0++Ce.byN 4 l.length++(l.take i).flatMap bs).length+(bs a).length≤99999000:=by
        rw [List.length_append,List.length_append,Ce.byN_len];omega
      have hB3:=Nat.le_trans hB k3.k.size;obtain ⟨u,rfl⟩:∃ u,y=[u]:=by
        match y,hy with
        | [u],_=>exact ⟨u,rfl⟩
      have hu1:=hR.one hya u (List.mem_singleton.2 rfl);(refine q0o<|tn<|q0b<|q0j<|q0b<|q0a<|Ls (q0n rfl rfl (by omega))<|Ls (q2l rfl hcell (j:=0) rfl rfl)<|Ls (q0e (v:=u) rfl)<|q0c<|tn<|q0a<|Ls (q0d (v:=.func _ _ _) rfl)<|Ls (q0d (v:=u) rfl) ?_);refine q6k (vl:=[u]) rfl (hf i a ha w3 [u] _ k3 hya hlen hB3 h3) rfl ?_;rintro e w5 ⟨rfl,h5,k5⟩;refine ⟨_,rfl,?_⟩;(refine q0c<|bn<|tn<|q0a<|Ls (q1e rfl rfl (by omega))<|m_I rfl<|q0c<|tn ?_);refine ⟨l.length - (i+1),by omega,i+1,rfl,by omega,rfl,rfl,rfl,rfl,?_,k3.trans k5⟩;rw [q5a bs l i a ha,← List.append_assoc];exact h5
    · obtain rfl:i=l.length:=(by omega);(refine q1b<|te<|te<|bx ?_);refine q1z rfl rfl ?_;refine ⟨rfl,?_,k3⟩;rw [List.take_length,List.append_assoc] at h3;exact h3
set_option maxRecDepth 100000 in
set_option maxHeartbeats 1000000 in
theorem gslB {α:Type} {R:Rep α} (hR:R.Ok) (id:FuncId) [TFun Tryz.prog id] (first cap:Array Value) (B p:Nat) (N:Nat→Prop) (bs:α→List Nat) (l:List α) (v:Value) (l0:List Nat) (w:World) (hN:Far N B p)
    (hf:q8z id first cap B p N R (fun x=>x.headD .nilIface) bs l w) (hv:slR 1 R N w [v] l) (hl:l.length < 4294967296) (hb:l0.length+4+(l.flatMap bs).length≤99999000) (hB:B≤w.heap.size) (he:EncAt B p w l0) :
    Calls Tryz.prog 31 #[.pointer (some ⟨p,0,none⟩),v,.func (.func id) first cap] w (EncR B p l0 (Ce.byN 4 l.length++l.flatMap bs) w):=by
  refine q0l Tryz.func31 rfl Tryz.ntmps31 rfl ?_;obtain ⟨A,c,e,hc,hcm⟩:=q1o hv;obtain rfl:v=.slice A l.length c:=by simpa using e
  (refine q0b<|q0a<|m_P rfl<|m_S rfl<|Ls (q0h rfl) ?_);refine L_fn (gint B p l.length l0 w hl (by omega) hB he) rfl ?_;rintro e w2 ⟨rfl,h2,k2⟩;refine ⟨_,rfl,?_⟩;(refine q0c<|tn<|q0b<|q0a<|m_S rfl<|Ls (q0h rfl)<|m_I rfl<|q0c<|tn<|q0j ?_);refine q1k (fun q f w'=>∃ i,q=l.length - i∧i≤l.length∧f 2=.func (.func id) first cap∧f 12=.slice A l.length c∧f 13=.int .i64 (l.length:Nat)∧f 14=.int .i64 (i:Nat)∧EncAt B p w' (l0++Ce.byN 4 l.length++(l.take i).flatMap bs)∧EncK B p w w') l.length ?_ ?_
  · exact ⟨0,rfl,by omega,rfl,rfl,rfl,rfl,by simpa using h2,k2⟩
  · rintro q f w3 ⟨i,rfl,hi,f2,f12,f13,f14,h3,k3⟩;rw [fold f2,fold f12,fold f13,fold f14];(refine q0b<|q0a<|Ls (q1w rfl rfl)<|q0c<|tn<|q0b ?_);refine q1d rfl (fun h=>?_) (fun h=>?_)
    · have hi':i < l.length:=(by omega);obtain ⟨a,ha⟩:∃ a,l[i]?=some a:=⟨_,List.getElem?_eq_getElem hi'⟩;have hv3:=(q1j (by decide) hR).keep hv k3.k hN;obtain ⟨b,o,c',y,e,_,_,hy,hcell,hya⟩:=q2z hv3 ha;cases e
      have hfl:=q6o bs l i a ha;have hlen:(l0++Ce.byN 4 l.length++(l.take i).flatMap bs).length+(bs a).length≤99999000:=by
        rw [List.length_append,List.length_append,Ce.byN_len];omega
      have hB3:=Nat.le_trans hB k3.k.size;obtain ⟨u,rfl⟩:∃ u,y=[u]:=by
        match y,hy with
        | [u],_=>exact ⟨u,rfl⟩
      have hu1:=hR.one hya u (List.mem_singleton.2 rfl);(refine q0o<|tn<|q0b<|q0j<|q0b<|q0a<|Ls (q0n rfl rfl (by omega))<|Ls (q2l rfl hcell (j:=0) rfl rfl)<|Ls (q0e (v:=u) rfl)<|q0c<|tn<|q0a<|Ls (q0d (v:=.func _ _ _) rfl)<|Ls (q0d (v:=u) rfl) ?_);refine q6k (vl:=[u]) rfl (hf i a ha w3 [u] _ k3 hya hlen hB3 h3) rfl ?_;rintro e w5 ⟨rfl,h5,k5⟩;refine ⟨_,rfl,?_⟩;(refine q0c<|bn<|tn<|q0a<|Ls (q1e rfl rfl (by omega))<|m_I rfl<|q0c<|tn ?_);refine ⟨l.length - (i+1),by omega,i+1,rfl,by omega,rfl,rfl,rfl,rfl,?_,k3.trans k5⟩;rw [q5a bs l i a ha,← List.append_assoc];exact h5
    · obtain rfl:i=l.length:=(by omega);(refine q1b<|te<|te<|bx ?_);refine q1z rfl rfl ?_;refine ⟨rfl,?_,k3⟩;rw [List.take_length,List.append_assoc] at h3;exact h3
set_option maxRecDepth 100000 in
set_option maxHeartbeats 1000000 in
theorem gslI {α:Type} {R:Rep α} (hR:R.Ok) (id:FuncId) [TFun Tryz.prog id] (first cap:Array Value) (B p:Nat) (N:Nat→Prop) (bs:α→List Nat) (l:List α) (v:Value) (l0:List Nat) (w:World) (hN:Far N B p)
    (hf:q8z id first cap B p N R (fun x=>x.headD .nilIface) bs l w) (hv:slR 1 R N w [v] l) (hl:l.length < 4294967296) (hb:l0.length+4+(l.flatMap bs).length≤99999000) (hB:B≤w.heap.size) (he:EncAt B p w l0) :
    Calls Tryz.prog 35 #[.pointer (some ⟨p,0,none⟩),v,.func (.func id) first cap] w (EncR B p l0 (Ce.byN 4 l.length++l.flatMap bs) w):=by
  refine q0l Tryz.func35 rfl Tryz.ntmps35 rfl ?_;obtain ⟨A,c,e,hc,hcm⟩:=q1o hv;obtain rfl:v=.slice A l.length c:=by simpa using e
  (refine q0b<|q0a<|m_P rfl<|m_S rfl<|Ls (q0h rfl) ?_);refine L_fn (gint B p l.length l0 w hl (by omega) hB he) rfl ?_;rintro e w2 ⟨rfl,h2,k2⟩;refine ⟨_,rfl,?_⟩;(refine q0c<|tn<|q0b<|q0a<|m_S rfl<|Ls (q0h rfl)<|m_I rfl<|q0c<|tn<|q0j ?_);refine q1k (fun q f w'=>∃ i,q=l.length - i∧i≤l.length∧f 2=.func (.func id) first cap∧f 12=.slice A l.length c∧f 13=.int .i64 (l.length:Nat)∧f 14=.int .i64 (i:Nat)∧EncAt B p w' (l0++Ce.byN 4 l.length++(l.take i).flatMap bs)∧EncK B p w w') l.length ?_ ?_
  · exact ⟨0,rfl,by omega,rfl,rfl,rfl,rfl,by simpa using h2,k2⟩
  · rintro q f w3 ⟨i,rfl,hi,f2,f12,f13,f14,h3,k3⟩;rw [fold f2,fold f12,fold f13,fold f14];(refine q0b<|q0a<|Ls (q1w rfl rfl)<|q0c<|tn<|q0b ?_);refine q1d rfl (fun h=>?_) (fun h=>?_)
    · have hi':i < l.length:=(by omega);obtain ⟨a,ha⟩:∃ a,l[i]?=some a:=⟨_,List.getElem?_eq_getElem hi'⟩;have hv3:=(q1j (by decide) hR).keep hv k3.k hN;obtain ⟨b,o,c',y,e,_,_,hy,hcell,hya⟩:=q2z hv3 ha;cases e
      have hfl:=q6o bs l i a ha;have hlen:(l0++Ce.byN 4 l.length++(l.take i).flatMap bs).length+(bs a).length≤99999000:=by
        rw [List.length_append,List.length_append,Ce.byN_len];omega
      have hB3:=Nat.le_trans hB k3.k.size;obtain ⟨u,rfl⟩:∃ u,y=[u]:=by
        match y,hy with
        | [u],_=>exact ⟨u,rfl⟩
      have hu1:=hR.one hya u (List.mem_singleton.2 rfl);(refine q0o<|tn<|q0b<|q0j<|q0b<|q0a<|Ls (q0n rfl rfl (by omega))<|Ls (q2l rfl hcell (j:=0) rfl rfl)<|Ls (q0e (v:=u) rfl)<|q0c<|tn<|q0a<|Ls (q0d (v:=.func _ _ _) rfl)<|Ls (q0d (v:=u) rfl) ?_);refine q6k (vl:=[u]) rfl (hf i a ha w3 [u] _ k3 hya hlen hB3 h3) rfl ?_;rintro e w5 ⟨rfl,h5,k5⟩;refine ⟨_,rfl,?_⟩;(refine q0c<|bn<|tn<|q0a<|Ls (q1e rfl rfl (by omega))<|m_I rfl<|q0c<|tn ?_);refine ⟨l.length - (i+1),by omega,i+1,rfl,by omega,rfl,rfl,rfl,rfl,?_,k3.trans k5⟩;rw [q5a bs l i a ha,← List.append_assoc];exact h5
    · obtain rfl:i=l.length:=(by omega);(refine q1b<|te<|te<|bx ?_);refine q1z rfl rfl ?_;refine ⟨rfl,?_,k3⟩;rw [List.take_length,List.append_assoc] at h3;exact h3
set_option maxRecDepth 100000 in
set_option maxHeartbeats 1000000 in
theorem gslC {α:Type} {R:Rep α} (hR:R.Ok) (id:FuncId) [TFun Tryz.prog id] (first cap:Array Value) (B p:Nat) (N:Nat→Prop) (bs:α→List Nat) (l:List α) (v:Value) (l0:List Nat) (w:World) (hN:Far N B p)
    (hf:q8z id first cap B p N R (fun x=>x.headD .nilIface) bs l w) (hv:slR 1 R N w [v] l) (hl:l.length < 4294967296) (hb:l0.length+4+(l.flatMap bs).length≤99999000) (hB:B≤w.heap.size) (he:EncAt B p w l0) :
    Calls Tryz.prog 43 #[.pointer (some ⟨p,0,none⟩),v,.func (.func id) first cap] w (EncR B p l0 (Ce.byN 4 l.length++l.flatMap bs) w):=by
  refine q0l Tryz.func43 rfl Tryz.ntmps43 rfl ?_;obtain ⟨A,c,e,hc,hcm⟩:=q1o hv;obtain rfl:v=.slice A l.length c:=by simpa using e
  (refine q0b<|q0a<|m_P rfl<|m_S rfl<|Ls (q0h rfl) ?_);refine L_fn (gint B p l.length l0 w hl (by omega) hB he) rfl ?_;rintro e w2 ⟨rfl,h2,k2⟩;refine ⟨_,rfl,?_⟩;(refine q0c<|tn<|q0b<|q0a<|m_S rfl<|Ls (q0h rfl)<|m_I rfl<|q0c<|tn<|q0j ?_);refine q1k (fun q f w'=>∃ i,q=l.length - i∧i≤l.length∧f 2=.func (.func id) first cap∧f 12=.slice A l.length c∧f 13=.int .i64 (l.length:Nat)∧f 14=.int .i64 (i:Nat)∧EncAt B p w' (l0++Ce.byN 4 l.length++(l.take i).flatMap bs)∧EncK B p w w') l.length ?_ ?_
  · exact ⟨0,rfl,by omega,rfl,rfl,rfl,rfl,by simpa using h2,k2⟩
  · rintro q f w3 ⟨i,rfl,hi,f2,f12,f13,f14,h3,k3⟩;rw [fold f2,fold f12,fold f13,fold f14];(refine q0b<|q0a<|Ls (q1w rfl rfl)<|q0c<|tn<|q0b ?_);refine q1d rfl (fun h=>?_) (fun h=>?_)
    · have hi':i < l.length:=(by omega);obtain ⟨a,ha⟩:∃ a,l[i]?=some a:=⟨_,List.getElem?_eq_getElem hi'⟩;have hv3:=(q1j (by decide) hR).keep hv k3.k hN;obtain ⟨b,o,c',y,e,_,_,hy,hcell,hya⟩:=q2z hv3 ha;cases e
      have hfl:=q6o bs l i a ha;have hlen:(l0++Ce.byN 4 l.length++(l.take i).flatMap bs).length+(bs a).length≤99999000:=by
        rw [List.length_append,List.length_append,Ce.byN_len];omega
      have hB3:=Nat.le_trans hB k3.k.size;obtain ⟨u,rfl⟩:∃ u,y=[u]:=by
        match y,hy with
        | [u],_=>exact ⟨u,rfl⟩
      have hu1:=hR.one hya u (List.mem_singleton.2 rfl);(refine q0o<|tn<|q0b<|q0j<|q0b<|q0a<|Ls (q0n rfl rfl (by omega))<|Ls (q2l rfl hcell (j:=0) rfl rfl)<|Ls (q0e (v:=u) rfl)<|q0c<|tn<|q0a<|Ls (q0d (v:=.func _ _ _) rfl)<|Ls (q0d (v:=u) rfl) ?_);refine q6k (vl:=[u]) rfl (hf i a ha w3 [u] _ k3 hya hlen hB3 h3) rfl ?_;rintro e w5 ⟨rfl,h5,k5⟩;refine ⟨_,rfl,?_⟩;(refine q0c<|bn<|tn<|q0a<|Ls (q1e rfl rfl (by omega))<|m_I rfl<|q0c<|tn ?_);refine ⟨l.length - (i+1),by omega,i+1,rfl,by omega,rfl,rfl,rfl,rfl,?_,k3.trans k5⟩;rw [q5a bs l i a ha,← List.append_assoc];exact h5
    · obtain rfl:i=l.length:=(by omega);(refine q1b<|te<|te<|bx ?_);refine q1z rfl rfl ?_;refine ⟨rfl,?_,k3⟩;rw [List.take_length,List.append_assoc] at h3;exact h3
set_option maxRecDepth 100000 in
set_option maxHeartbeats 1000000 in
theorem gslW {α:Type} {R:Rep α} (hR:R.Ok) (id:FuncId) [TFun Tryz.prog id] (first cap:Array Value) (B p:Nat) (N:Nat→Prop) (bs:α→List Nat) (l:List α) (v:Value) (l0:List Nat) (w:World) (hN:Far N B p)
    (hf:q8z id first cap B p N R (fun x=>x.headD .nilIface) bs l w) (hv:slR 1 R N w [v] l) (hl:l.length < 4294967296) (hb:l0.length+4+(l.flatMap bs).length≤99999000) (hB:B≤w.heap.size) (he:EncAt B p w l0) :
    Calls Tryz.prog 87 #[.pointer (some ⟨p,0,none⟩),v,.func (.func id) first cap] w (EncR B p l0 (Ce.byN 4 l.length++l.flatMap bs) w):=by
  refine q0l Tryz.func87 rfl Tryz.ntmps87 rfl ?_;obtain ⟨A,c,e,hc,hcm⟩:=q1o hv;obtain rfl:v=.slice A l.length c:=by simpa using e
  (refine q0b<|q0a<|m_P rfl<|m_S rfl<|Ls (q0h rfl) ?_);refine L_fn (gint B p l.length l0 w hl (by omega) hB he) rfl ?_;rintro e w2 ⟨rfl,h2,k2⟩;refine ⟨_,rfl,?_⟩;(refine q0c<|tn<|q0b<|q0a<|m_S rfl<|Ls (q0h rfl)<|m_I rfl<|q0c<|tn<|q0j ?_);refine q1k (fun q f w'=>∃ i,q=l.length - i∧i≤l.length∧f 2=.func (.func id) first cap∧f 12=.slice A l.length c∧f 13=.int .i64 (l.length:Nat)∧f 14=.int .i64 (i:Nat)∧EncAt B p w' (l0++Ce.byN 4 l.length++(l.take i).flatMap bs)∧EncK B p w w') l.length ?_ ?_
  · exact ⟨0,rfl,by omega,rfl,rfl,rfl,rfl,by simpa using h2,k2⟩
  · rintro q f w3 ⟨i,rfl,hi,f2,f12,f13,f14,h3,k3⟩;rw [fold f2,fold f12,fold f13,fold f14];(refine q0b<|q0a<|Ls (q1w rfl rfl)<|q0c<|tn<|q0b ?_);refine q1d rfl (fun h=>?_) (fun h=>?_)
    · have hi':i < l.length:=(by omega);obtain ⟨a,ha⟩:∃ a,l[i]?=some a:=⟨_,List.getElem?_eq_getElem hi'⟩;have hv3:=(q1j (by decide) hR).keep hv k3.k hN;obtain ⟨b,o,c',y,e,_,_,hy,hcell,hya⟩:=q2z hv3 ha;cases e
      have hfl:=q6o bs l i a ha;have hlen:(l0++Ce.byN 4 l.length++(l.take i).flatMap bs).length+(bs a).length≤99999000:=by
        rw [List.length_append,List.length_append,Ce.byN_len];omega
      have hB3:=Nat.le_trans hB k3.k.size;obtain ⟨u,rfl⟩:∃ u,y=[u]:=by
        match y,hy with
        | [u],_=>exact ⟨u,rfl⟩
      have hu1:=hR.one hya u (List.mem_singleton.2 rfl);(refine q0o<|tn<|q0b<|q0j<|q0b<|q0a<|Ls (q0n rfl rfl (by omega))<|Ls (q2l rfl hcell (j:=0) rfl rfl)<|Ls (q0e (v:=u) rfl)<|q0c<|tn<|q0a<|Ls (q0d (v:=.func _ _ _) rfl)<|Ls (q0d (v:=u) rfl) ?_);refine q6k (vl:=[u]) rfl (hf i a ha w3 [u] _ k3 hya hlen hB3 h3) rfl ?_;rintro e w5 ⟨rfl,h5,k5⟩;refine ⟨_,rfl,?_⟩;(refine q0c<|bn<|tn<|q0a<|Ls (q1e rfl rfl (by omega))<|m_I rfl<|q0c<|tn ?_);refine ⟨l.length - (i+1),by omega,i+1,rfl,by omega,rfl,rfl,rfl,rfl,?_,k3.trans k5⟩;rw [q5a bs l i a ha,← List.append_assoc];exact h5
    · obtain rfl:i=l.length:=(by omega);(refine q1b<|te<|te<|bx ?_);refine q1z rfl rfl ?_;refine ⟨rfl,?_,k3⟩;rw [List.take_length,List.append_assoc] at h3;exact h3
set_option maxRecDepth 100000 in
set_option maxHeartbeats 1000000 in
theorem gslE {α:Type} {R:Rep α} (hR:R.Ok) (id:FuncId) [TFun Tryz.prog id] (first cap:Array Value) (B p:Nat) (N:Nat→Prop) (bs:α→List Nat) (l:List α) (v:Value) (l0:List Nat) (w:World) (hN:Far N B p)
    (hf:q8z id first cap B p N R (fun x=>.agg x.toArray) bs l w) (hv:slR 2 R N w [v] l) (hl:l.length < 4294967296) (hb:l0.length+4+(l.flatMap bs).length≤99999000) (hB:B≤w.heap.size) (he:EncAt B p w l0) :
    Calls Tryz.prog 42 #[.pointer (some ⟨p,0,none⟩),v,.func (.func id) first cap] w (EncR B p l0 (Ce.byN 4 l.length++l.flatMap bs) w):=by
  refine q0l Tryz.func42 rfl Tryz.ntmps42 rfl ?_;obtain ⟨A,c,e,hc,hcm⟩:=q1o hv;obtain rfl:v=.slice A l.length c:=by simpa using e
  (refine q0b<|q0a<|m_P rfl<|m_S rfl<|Ls (q0h rfl) ?_);refine L_fn (gint B p l.length l0 w hl (by omega) hB he) rfl ?_;rintro e w2 ⟨rfl,h2,k2⟩;refine ⟨_,rfl,?_⟩;(refine q0c<|tn<|q0b<|q0a<|m_S rfl<|Ls (q0h rfl)<|m_I rfl<|q0c<|tn<|q0j ?_);refine q1k (fun q f w'=>∃ i,q=l.length - i∧i≤l.length∧f 2=.func (.func id) first cap∧f 12=.slice A l.length c∧f 13=.int .i64 (l.length:Nat)∧f 14=.int .i64 (i:Nat)∧EncAt B p w' (l0++Ce.byN 4 l.length++(l.take i).flatMap bs)∧EncK B p w w') l.length ?_ ?_
  · exact ⟨0,rfl,by omega,rfl,rfl,rfl,rfl,by simpa using h2,k2⟩
  · rintro q f w3 ⟨i,rfl,hi,f2,f12,f13,f14,h3,k3⟩;rw [fold f2,fold f12,fold f13,fold f14];(refine q0b<|q0a<|Ls (q1w rfl rfl)<|q0c<|tn<|q0b ?_);refine q1d rfl (fun h=>?_) (fun h=>?_)
    · have hi':i < l.length:=(by omega);obtain ⟨a,ha⟩:∃ a,l[i]?=some a:=⟨_,List.getElem?_eq_getElem hi'⟩;have hv3:=(q1j (by decide) hR).keep hv k3.k hN;obtain ⟨b,o,c',y,e,_,_,hy,hcell,hya⟩:=q2z hv3 ha;cases e
      have hfl:=q6o bs l i a ha;have hlen:(l0++Ce.byN 4 l.length++(l.take i).flatMap bs).length+(bs a).length≤99999000:=by
        rw [List.length_append,List.length_append,Ce.byN_len];omega
      have hB3:=Nat.le_trans hB k3.k.size;(refine q0o<|tn<|q0b<|q0j<|q0b<|q0a<|Ls (q0n rfl rfl (by omega)) ?_);refine Ls (q2s (size:=2) (cs:=y) rfl (fun j u hu=>hcell j u hu) hy) ?_;refine q0z ?_;intro g5 w4 B4 hg4 E4 hs4;refine q0m rfl rfl hy (hR.one hya) B4 rfl ?_;intro w5 B5 hg5 hs5;have E5:Ext w3 w5:=E4.then hg5 (fun g h=>by cases h;omega);have k4:=k3.trans (EncK.of_ext (B:=B) (p:=p) E5);(refine q0c<|tn<|q0a<|Ls (q0d (v:=.func _ _ _) rfl)<|Ls (q2o rfl B5 hy) ?_);refine q6k (vl:=[.agg y.toArray]) rfl (hf i a ha w5 y _ k4 (hR.ext hya E5) hlen (Nat.le_trans hB3 E5.size) (h3.ext E5)) rfl ?_;rintro e w5 ⟨rfl,h5,k5⟩;refine ⟨_,rfl,?_⟩;(refine q0c<|bn<|tn<|q0a<|Ls (q1e rfl rfl (by omega))<|m_I rfl<|q0c<|tn ?_);refine ⟨l.length - (i+1),by omega,i+1,rfl,by omega,rfl,rfl,rfl,rfl,?_,k4.trans k5⟩;rw [q5a bs l i a ha,← List.append_assoc];exact h5
    · obtain rfl:i=l.length:=(by omega);(refine q1b<|te<|te<|bx ?_);refine q1z rfl rfl ?_;refine ⟨rfl,?_,k3⟩;rw [List.take_length,List.append_assoc] at h3;exact h3
set_option maxRecDepth 100000 in
set_option maxHeartbeats 1000000 in
theorem gslL {α:Type} {R:Rep α} (hR:R.Ok) (id:FuncId) [TFun Tryz.prog id] (first cap:Array Value) (B p:Nat) (N:Nat→Prop) (bs:α→List Nat) (l:List α) (v:Value) (l0:List Nat) (w:World) (hN:Far N B p)
    (hf:q8z id first cap B p N R (fun x=>.agg x.toArray) bs l w) (hv:slR 6 R N w [v] l) (hl:l.length < 4294967296) (hb:l0.length+4+(l.flatMap bs).length≤99999000) (hB:B≤w.heap.size) (he:EncAt B p w l0) :
    Calls Tryz.prog 39 #[.pointer (some ⟨p,0,none⟩),v,.func (.func id) first cap] w (EncR B p l0 (Ce.byN 4 l.length++l.flatMap bs) w):=by
  refine q0l Tryz.func39 rfl Tryz.ntmps39 rfl ?_;obtain ⟨A,c,e,hc,hcm⟩:=q1o hv;obtain rfl:v=.slice A l.length c:=by simpa using e
  (refine q0b<|q0a<|m_P rfl<|m_S rfl<|Ls (q0h rfl) ?_);refine L_fn (gint B p l.length l0 w hl (by omega) hB he) rfl ?_;rintro e w2 ⟨rfl,h2,k2⟩;refine ⟨_,rfl,?_⟩;(refine q0c<|tn<|q0b<|q0a<|m_S rfl<|Ls (q0h rfl)<|m_I rfl<|q0c<|tn<|q0j ?_);refine q1k (fun q f w'=>∃ i,q=l.length - i∧i≤l.length∧f 2=.func (.func id) first cap∧f 12=.slice A l.length c∧f 13=.int .i64 (l.length:Nat)∧f 14=.int .i64 (i:Nat)∧EncAt B p w' (l0++Ce.byN 4 l.length++(l.take i).flatMap bs)∧EncK B p w w') l.length ?_ ?_
  · exact ⟨0,rfl,by omega,rfl,rfl,rfl,rfl,by simpa using h2,k2⟩
  · rintro q f w3 ⟨i,rfl,hi,f2,f12,f13,f14,h3,k3⟩;rw [fold f2,fold f12,fold f13,fold f14];(refine q0b<|q0a<|Ls (q1w rfl rfl)<|q0c<|tn<|q0b ?_);refine q1d rfl (fun h=>?_) (fun h=>?_)
    · have hi':i < l.length:=(by omega);obtain ⟨a,ha⟩:∃ a,l[i]?=some a:=⟨_,List.getElem?_eq_getElem hi'⟩;have hv3:=(q1j (by decide) hR).keep hv k3.k hN;obtain ⟨b,o,c',y,e,_,_,hy,hcell,hya⟩:=q2z hv3 ha;cases e
      have hfl:=q6o bs l i a ha;have hlen:(l0++Ce.byN 4 l.length++(l.take i).flatMap bs).length+(bs a).length≤99999000:=by
        rw [List.length_append,List.length_append,Ce.byN_len];omega
      have hB3:=Nat.le_trans hB k3.k.size;(refine q0o<|tn<|q0b<|q0j<|q0b<|q0a<|Ls (q0n rfl rfl (by omega)) ?_);refine Ls (q2s (size:=6) (cs:=y) rfl (fun j u hu=>hcell j u hu) hy) ?_;refine q0z ?_;intro g5 w4 B4 hg4 E4 hs4;refine q0m rfl rfl hy (hR.one hya) B4 rfl ?_;intro w5 B5 hg5 hs5;have E5:Ext w3 w5:=E4.then hg5 (fun g h=>by cases h;omega);have k4:=k3.trans (EncK.of_ext (B:=B) (p:=p) E5);(refine q0c<|tn<|q0a<|Ls (q0d (v:=.func _ _ _) rfl)<|Ls (q2o rfl B5 hy) ?_);refine q6k (vl:=[.agg y.toArray]) rfl (hf i a ha w5 y _ k4 (hR.ext hya E5) hlen (Nat.le_trans hB3 E5.size) (h3.ext E5)) rfl ?_;rintro e w5 ⟨rfl,h5,k5⟩;refine ⟨_,rfl,?_⟩;(refine q0c<|bn<|tn<|q0a<|Ls (q1e rfl rfl (by omega))<|m_I rfl<|q0c<|tn ?_);refine ⟨l.length - (i+1),by omega,i+1,rfl,by omega,rfl,rfl,rfl,rfl,?_,k4.trans k5⟩;rw [q5a bs l i a ha,← List.append_assoc];exact h5
    · obtain rfl:i=l.length:=(by omega);(refine q1b<|te<|te<|bx ?_);refine q1z rfl rfl ?_;refine ⟨rfl,?_,k3⟩;rw [List.take_length,List.append_assoc] at h3;exact h3
set_option maxRecDepth 100000 in
set_option maxHeartbeats 1000000 in
theorem gslD {α:Type} {R:Rep α} (hR:R.Ok) (id:FuncId) [TFun Tryz.prog id] (first cap:Array Value) (B p:Nat) (N:Nat→Prop) (bs:α→List Nat) (l:List α) (v:Value) (l0:List Nat) (w:World) (hN:Far N B p)
    (hf:q8z id first cap B p N R (fun x=>.agg x.toArray) bs l w) (hv:slR 32 R N w [v] l) (hl:l.length < 4294967296) (hb:l0.length+4+(l.flatMap bs).length≤99999000) (hB:B≤w.heap.size) (he:EncAt B p w l0) :
    Calls Tryz.prog 45 #[.pointer (some ⟨p,0,none⟩),v,.func (.func id) first cap] w (EncR B p l0 (Ce.byN 4 l.length++l.flatMap bs) w):=by
  refine q0l Tryz.func45 rfl Tryz.ntmps45 rfl ?_;obtain ⟨A,c,e,hc,hcm⟩:=q1o hv;obtain rfl:v=.slice A l.length c:=by simpa using e
  (refine q0b<|q0a<|m_P rfl<|m_S rfl<|Ls (q0h rfl) ?_);refine L_fn (gint B p l.length l0 w hl (by omega) hB he) rfl ?_;rintro e w2 ⟨rfl,h2,k2⟩;refine ⟨_,rfl,?_⟩;(refine q0c<|tn<|q0b<|q0a<|m_S rfl<|Ls (q0h rfl)<|m_I rfl<|q0c<|tn<|q0j ?_);refine q1k (fun q f w'=>∃ i,q=l.length - i∧i≤l.length∧f 2=.func (.func id) first cap∧f 12=.slice A l.length c∧f 13=.int .i64 (l.length:Nat)∧f 14=.int .i64 (i:Nat)∧EncAt B p w' (l0++Ce.byN 4 l.length++(l.take i).flatMap bs)∧EncK B p w w') l.length ?_ ?_
  · exact ⟨0,rfl,by omega,rfl,rfl,rfl,rfl,by simpa using h2,k2⟩
  · rintro q f w3 ⟨i,rfl,hi,f2,f12,f13,f14,h3,k3⟩;rw [fold f2,fold f12,fold f13,fold f14];(refine q0b<|q0a<|Ls (q1w rfl rfl)<|q0c<|tn<|q0b ?_);refine q1d rfl (fun h=>?_) (fun h=>?_)
    · have hi':i < l.length:=(by omega);obtain ⟨a,ha⟩:∃ a,l[i]?=some a:=⟨_,List.getElem?_eq_getElem hi'⟩;have hv3:=(q1j (by decide) hR).keep hv k3.k hN;obtain ⟨b,o,c',y,e,_,_,hy,hcell,hya⟩:=q2z hv3 ha;cases e
      have hfl:=q6o bs l i a ha;have hlen:(l0++Ce.byN 4 l.length++(l.take i).flatMap bs).length+(bs a).length≤99999000:=by
        rw [List.length_append,List.length_append,Ce.byN_len];omega
      have hB3:=Nat.le_trans hB k3.k.size;(refine q0o<|tn<|q0b<|q0j<|q0b<|q0a<|Ls (q0n rfl rfl (by omega)) ?_);refine Ls (q2s (size:=32) (cs:=y) rfl (fun j u hu=>hcell j u hu) hy) ?_;refine q0z ?_;intro g5 w4 B4 hg4 E4 hs4;refine q0m rfl rfl hy (hR.one hya) B4 rfl ?_;intro w5 B5 hg5 hs5;have E5:Ext w3 w5:=E4.then hg5 (fun g h=>by cases h;omega);have k4:=k3.trans (EncK.of_ext (B:=B) (p:=p) E5);(refine q0c<|tn<|q0a<|Ls (q0d (v:=.func _ _ _) rfl)<|Ls (q2o rfl B5 hy) ?_);refine q6k (vl:=[.agg y.toArray]) rfl (hf i a ha w5 y _ k4 (hR.ext hya E5) hlen (Nat.le_trans hB3 E5.size) (h3.ext E5)) rfl ?_;rintro e w5 ⟨rfl,h5,k5⟩;refine ⟨_,rfl,?_⟩;(refine q0c<|bn<|tn<|q0a<|Ls (q1e rfl rfl (by omega))<|m_I rfl<|q0c<|tn ?_);refine ⟨l.length - (i+1),by omega,i+1,rfl,by omega,rfl,rfl,rfl,rfl,?_,k4.trans k5⟩;rw [q5a bs l i a ha,← List.append_assoc];exact h5
    · obtain rfl:i=l.length:=(by omega);(refine q1b<|te<|te<|bx ?_);refine q1z rfl rfl ?_;refine ⟨rfl,?_,k3⟩;rw [List.take_length,List.append_assoc] at h3;exact h3
abbrev ptr (p:Nat):Value:=.pointer (some ⟨p,0,none⟩)
def E64 (e:Nat × Nat):Prop:=e.1 < 18446744073709551616∧e.2 < 18446744073709551616
theorem elemE {B p:Nat} {N:Nat→Prop} {l:List (Nat × Nat)} {w0:World} (h:∀ e∈l,E64 e):q8z 41 #[ptr p] #[] B p N exR (fun x=>.agg x.toArray) Ce.extC.w l w0:=by
  intro i a ha w x l0 k hx hlen hB he;obtain rfl:x=exC a.1 a.2:=hx;have h1:=h a (List.mem_of_getElem? ha);exact gext B p a.1 a.2 l0 w h1.1 h1.2 (by omega) hB he
theorem elemW {B p:Nat} {N:Nat→Prop} {l:List Nat} {w0:World} (h:∀ e∈l,e < 18446744073709551616):q8z 86 #[ptr p] #[] B p N (numR .u64) (fun x=>x.headD .nilIface) Ce.wordC.w l w0:=by
  intro i a ha w x l0 k hx hlen hB he;obtain rfl:x=[.int .u64 (a:Nat)]:=hx;exact gword B p a l0 w (h a (List.mem_of_getElem? ha)) (by omega) hB he
set_option maxRecDepth 100000 in
set_option maxHeartbeats 1000000 in
theorem ground (B p:Nat) (N:Nat→Prop) (l:List (Nat × Nat)) (v:Value) (l0:List Nat) (w:World) (hN:Far N B p) (hv:slR 2 exR N w [v] l) (hok:∀ e∈l,E64 e) (hl:l.length < 4294967296) (hb:l0.length+(Ce.roundC.w l).length≤99999000) (hB:B≤w.heap.size) (he:EncAt B p w l0) :
    Calls Tryz.prog 38 #[ptr p,v] w (EncR B p l0 (Ce.roundC.w l) w):=by
  refine q0l Tryz.func38 rfl Tryz.ntmps38 rfl ?_;have hv1:=q0y.one hv v (List.mem_singleton.2 rfl);have hb':l0.length+4+(l.flatMap Ce.extC.w).length≤99999000:=by
    have:(Ce.roundC.w l).length=4+(l.flatMap Ce.extC.w).length:=by
      show (Ce.byN 4 l.length++_).length=_;rw [List.length_append,Ce.byN_len];rfl
    omega
  (refine q0a<|m_P rfl<|Ls (q0d (v:=v) rfl)<|m_P rfl ?_);refine Ls (q1u (vf:=[ptr p]) (vc:=[]) rfl rfl) ?_;skip;refine L_fn (gslE q3p 41 #[ptr p] #[] B p N Ce.extC.w l v l0 w hN (elemE hok) hv hl hb' hB he) rfl ?_;rintro e w2 ⟨rfl,h2,k2⟩;refine ⟨_,rfl,?_⟩;(refine q0c ?_);refine q1z rfl rfl ?_;exact ⟨rfl,h2,k2⟩
set_option maxRecDepth 100000 in
set_option maxHeartbeats 1000000 in
theorem gcolumnE (B p:Nat) (N:Nat→Prop) (l:List Nat) (v:Value) (l0:List Nat) (w:World) (hN:Far N B p) (hv:slR 1 (numR .u64) N w [v] l) (hok:∀ e∈l,e < 18446744073709551616) (hl:l.length < 4294967296) (hb:l0.length+((Ce.lst Ce.wordC).w l).length≤99999000) (hB:B≤w.heap.size) (he:EncAt B p w l0) :
    Calls Tryz.prog 44 #[ptr p,v] w (EncR B p l0 ((Ce.lst Ce.wordC).w l) w):=by
  refine q0l Tryz.func44 rfl Tryz.ntmps44 rfl ?_;have hv1:=(q1j (by decide) (q1y _)).one hv v (List.mem_singleton.2 rfl);have hb':l0.length+4+(l.flatMap Ce.wordC.w).length≤99999000:=by
    have:((Ce.lst Ce.wordC).w l).length=4+(l.flatMap Ce.wordC.w).length:=by
      show (Ce.byN 4 l.length++_).length=_;rw [List.length_append,Ce.byN_len];rfl
    omega
  (refine q0a<|m_P rfl<|Ls (q0d (v:=v) rfl)<|m_P rfl ?_);refine Ls (q1u (vf:=[ptr p]) (vc:=[]) rfl rfl) ?_;skip;refine L_fn (gslW (q1y _) 86 #[ptr p] #[] B p N Ce.wordC.w l v l0 w hN (elemW hok) hv hl hb' hB he) rfl ?_;rintro e w2 ⟨rfl,h2,k2⟩;refine ⟨_,rfl,?_⟩;(refine q0c ?_);refine q1z rfl rfl ?_;exact ⟨rfl,h2,k2⟩
def Rd64 (r:List (Nat × Nat)):Prop:=r.length < 4294967296∧∀ e∈r,E64 e
def Lp64 (p:Ce.LP):Prop:=p.rounds.length < 4294967296∧(∀ r∈p.rounds,Rd64 r)∧E64 p.left∧E64 p.right∧Rd64 p.line
theorem q2f {α:Type} {size:Nat} {R:Rep α} {N:Nat→Prop} {w:World} {x:List Value} {l:List α} (h:slR size R N w x l):∃ v,x=[v]:=by
  obtain ⟨v,h,_⟩:=h;exact ⟨v,h⟩
theorem elemR {B p:Nat} {N:Nat→Prop} {l:List (List (Nat × Nat))} {w0:World} (hN:Far N B p) (h:∀ r∈l,Rd64 r):q8z 38 #[ptr p] #[] B p N (slR 2 exR) (fun x=>x.headD .nilIface) Ce.roundC.w l w0:=by
  intro i a ha w x l0 k hx hlen hB he;obtain ⟨v,rfl⟩:=q2f hx;have h1:=h a (List.mem_of_getElem? ha);exact ground B p N a v l0 w hN hx h1.2 h1.1 hlen hB he
theorem elemC {B p:Nat} {N:Nat→Prop} {l:List (List Nat)} {w0:World} (hN:Far N B p) (h:∀ r∈l,r.length < 4294967296∧∀ e∈r,e < 18446744073709551616):q8z 44 #[ptr p] #[] B p N (slR 1 (numR .u64)) (fun x=>x.headD .nilIface) (Ce.lst Ce.wordC).w l w0:=by
  intro i a ha w x l0 k hx hlen hB he;obtain ⟨v,rfl⟩:=q2f hx;have h1:=h a (List.mem_of_getElem? ha);exact gcolumnE B p N a v l0 w hN hx h1.2 h1.1 hlen hB he
theorem z3t {α:Type} (c:Ce.Cod α) (l:List α):((Ce.lst c).w l).length=4+(l.flatMap c.w).length:=by
  show (Ce.byN 4 l.length++_).length=_;rw [List.length_append,Ce.byN_len];rfl
theorem ext_len (e:Nat × Nat):(Ce.extC.w e).length=16:=by
  show (Ce.byN 8 e.1++Ce.byN 8 e.2).length=16;rw [List.length_append,Ce.byN_len,Ce.byN_len]
theorem lp_w (p:Ce.LP):Ce.lpC.w p=(Ce.lst Ce.roundC).w p.rounds++(Ce.extC.w p.left++(Ce.extC.w p.right++Ce.roundC.w p.line)):=rfl
set_option maxRecDepth 100000 in
set_option maxHeartbeats 1000000 in
theorem glayer (B p:Nat) (N:Nat→Prop) (l:Ce.LP) (x:List Value) (l0:List Nat) (w:World) (hN:Far N B p) (hx:lpR N w x l) (hok:Lp64 l) (hb:l0.length+(Ce.lpC.w l).length≤99999000) (hB:B≤w.heap.size) (he:EncAt B p w l0) :
    Calls Tryz.prog 40 #[ptr p,.agg x.toArray] w (EncR B p l0 (Ce.lpC.w l) w):=by
  refine q0l Tryz.func40 rfl Tryz.ntmps40 rfl ?_;have hp:=he.lt;rw [lp_w] at hb ⊢;simp only [List.length_append,z3t,ext_len] at hb;have hline:(Ce.roundC.w l.line).length=4+(l.line.flatMap Ce.extC.w).length:=z3t _ _;obtain ⟨a,b,rfl,h1,h2⟩:=hx;have ha1:=q1i.one h1 a (List.mem_singleton.2 rfl);have hb1:=q0y.one h2 b (List.mem_singleton.2 rfl);obtain ⟨o1,o2,o3,o4,o5⟩:=hok;(refine q0b<|q0a ?_);refine q3t rfl ?_;intro g2 w2 B2 hg2 E2 hs2;(refine q0c<|tn<|q0b<|q0a<|m_P rfl<|Ls (q0g rfl)<|Ls (X_ld rfl B2 rfl)<|m_P rfl ?_);refine Ls (q1u (vf:=[ptr p]) (vc:=[]) rfl rfl) ?_;skip;refine L_fn (gslR q0y 38 #[ptr p] #[] B p N Ce.roundC.w l.rounds a l0 w2 hN (elemR hN o2) (q1i.ext h1 E2) o1 (by omega) (Nat.le_trans hB E2.size) (he.ext E2)) rfl ?_;rintro e w3 ⟨rfl,e3,k3⟩;refine ⟨_,rfl,?_⟩;have B3:=k3.k.blk B2 (by omega) (.inr (by decide));have hs3:=Nat.le_trans (Nat.le_trans hB E2.size) k3.k.size;(refine q0c<|tn<|q0b<|q0a<|m_P rfl<|Ls (q0g rfl)<|Ls (q4p (l:=exC l.left.1 l.left.2) rfl B3 rfl rfl) ?_);refine L_fn (gext B p l.left.1 l.left.2 _ w3 o3.1 o3.2 (by simp only [List.length_append,Ce.byN_len];omega) hs3 e3) rfl ?_;rintro e w4 ⟨rfl,e4,k4⟩;refine ⟨_,rfl,?_⟩;have B4:=k4.k.blk B3 (by omega) (.inr (by decide));have hs4:=Nat.le_trans hs3 k4.k.size;(refine q0c<|tn<|q0b<|q0a<|m_P rfl<|Ls (q0g rfl)<|Ls (q4p (l:=exC l.right.1 l.right.2) rfl B4 rfl rfl) ?_);refine L_fn (gext B p l.right.1 l.right.2 _ w4 o4.1 o4.2 (by simp only [List.length_append,Ce.byN_len];omega) hs4 e4) rfl ?_;rintro e w5 ⟨rfl,e5,k5⟩;refine ⟨_,rfl,?_⟩;have B5:=k5.k.blk B4 (by omega) (.inr (by decide));have hs5:=Nat.le_trans hs4 k5.k.size;(refine q0c<|tn<|q0a<|m_P rfl<|Ls (q0g rfl)<|Ls (X_ld rfl B5 rfl)<|m_P rfl ?_);refine Ls (q1u (vf:=[ptr p]) (vc:=[]) rfl rfl) ?_;skip;have hline5:=q0y.keep (q0y.keep (q0y.keep (q0y.ext h2 E2) k3.k hN) k4.k hN) k5.k hN;refine L_fn (gslE q3p 41 #[ptr p] #[] B p N Ce.extC.w l.line b _ w5 hN (elemE o5.2) hline5 o5.1 (by simp only [List.length_append,Ce.byN_len];omega) hs5 e5) rfl ?_;rintro e w6 ⟨rfl,e6,k6⟩;refine ⟨_,rfl,?_⟩;(refine q0c ?_);refine q1z rfl rfl ?_;refine ⟨rfl,?_,(EncK.of_ext E2).trans (k3.trans (k4.trans (k5.trans k6)))⟩;simp only [List.append_assoc] at e6;rw [show (Ce.lst Ce.roundC).w l.rounds=Ce.byN 4 l.rounds.length++l.rounds.flatMap Ce.roundC.w from rfl,show Ce.extC.w l.left=Ce.byN 8 l.left.1++Ce.byN 8 l.left.2 from rfl,show Ce.extC.w l.right=Ce.byN 8 l.right.1++Ce.byN 8 l.right.2 from rfl,show Ce.roundC.w l.line=Ce.byN 4 l.line.length++l.line.flatMap Ce.extC.w from rfl];simp only [List.append_assoc];exact e6
theorem elemL {B p:Nat} {N:Nat→Prop} {l:List Ce.LP} {w0:World} (hN:Far N B p) (h:∀ r∈l,Lp64 r):q8z 40 #[ptr p] #[] B p N lpR (fun x=>.agg x.toArray) Ce.lpC.w l w0:=by
  intro i a ha w x l0 k hx hlen hB he;exact glayer B p N a x l0 w hN hx (h a (List.mem_of_getElem? ha)) hlen hB he
end Go.Proofs.YtbolofkandcnlaaGreatDoor
namespace Go.Proofs.K
open Go.RowKit
section
variable {R:Nat→World→World→Prop} {P:Program} {n:NN} {ops:Array Oper} {A:Nat→World→Prop} {Fin:List Oper→(Rho→Fr)→(Rho→Nat→World→Prop)→Prop} {rest:List Oper} {k:Nat} {E:List Ent} {g:Rho→Fr} {H:Rho→Nat→World→Prop} {d:Tmp} {t:TypeId} {pos:String} {af:Array Edge}
theorem DW_appS {bl:Option Nat} {size bytes m q base:Nat} {ty e:TypeId} {v u:Value} {xs ys:List Value} {x y:Operand} [TSlice P ty e] [hz:TElem P e size bytes]
    (hx:∀ r,ev n (g r) x=v) (hy:∀ r,ev n (g r) y=u) (hbl:v.ownBlock=bl) (hA:∀ w,A k w→w.ownsRow base e size v m xs∧base≤w.heap.size) (hrow:∀ w,A k w→∃ lo hi,Row w lo hi size u q ys)
    (h1:∀ q∈ys,q.oneCell'=true) (hb:(m+q) * bytes≤140737488355328) (hm:m+q≤9223372036854775807)
    (hr:DW (RA k bl e size m) P n ops A Fin rest (k+1) E (fun r=>upd (g r) d (r k)) (fun r j w=>bif Nat.beq j k then w.ownsRow base e size (r k) (m+q) (xs++ys) else H r j w)) :
    DW (RA k bl e size m) P n ops A Fin (⟨some d,.call ⟨.builtin .append,#[x,y],#[ty,ty]⟩,t,pos,af,none⟩ :: rest) k (.op (fun r w=>w.ownsRow base e size (r k) (m+q) (xs++ys)) :: E) g H:=by
  obtain ⟨z,h0,hzs,hsz⟩:=hz.h;haveI:TInfo P e size bytes z:=⟨h0⟩;refine DW_dr (F:=fun _ u w=>w.ownsRow base e size u (m+q) (xs++ys)) ?_ ?_ (fun _ _=>rfl) hr
  · intro r w hAw hH;obtain ⟨lo,hi,hR⟩:=hrow w hAw;obtain ⟨ho,hbs⟩:=hA w hAw;obtain ⟨v',w',hX,h2,h3,_,h5⟩:=q9g (P:=P) (ty:=t) (t:=ty) hzs hsz ho hR h1 hb hm hbs;exact ⟨v',w',z0f (hx r) (hy r) hX,.inr ⟨rfl,hbl ▸ h3,h5⟩,h2⟩
  · exact fun i r u w w' hi _ hR hF=>q1p hF (hR.other hi)
end
end Go.Proofs.K
namespace Go.Proofs.YtbolofkandcnlaaGreatDoor
open Go.RowKit Go.Proofs.K
theorem q9s {k:IntKind} {I:List Nat} {i x:Nat} (h:I[i]?=some x):(ints k I)[i]?=some (.int k (x:Nat)):=by unfold ints;rw [List.getElem?_map,h];rfl
set_option maxRecDepth 100000 in
set_option maxHeartbeats 1000000 in
theorem gdigest (B p:Nat) (ds:List Nat) (l:List Nat) (w:World) (hd:ds.length=32) (hl:l.length≤99999000) (hB:B≤w.heap.size) (he:EncAt B p w l) :
    Calls Tryz.prog 34 #[ptr p,.agg (ints .u8 ds).toArray] w (EncR B p l ds w):=by
  refine q0l Tryz.func34 rfl Tryz.ntmps34 rfl ?_;have hp:=he.lt;(refine q0b<|q0a ?_);refine q3t (l:=ints .u8 ds) rfl ?_;intro g2 w2 B2 hg2 E2 hs2;obtain ⟨v,bv,ov⟩:=he.ext E2;have hne:=z2t ov bv;have hv1:=q2a (Row.of_own ov);have hne2:∀ q,v.ownBlock=some q→q ≠ g2:=by
    rintro q hq rfl;obtain ⟨_,cs,fz,h⟩:=z0s ov q hq;have h':w2.heap[q]?=some (.cells _ _ _):=B2;rw [h] at h';cases h'
  have BA:∀ {u:World},AA w2 v.ownBlock B 5 1 v l.length (ints .u8 l) u→Blk u p 87 [v]:=fun hA=>bv.grown hA.g (fun h=>hne _ h rfl);have BD:∀ {u:World},AA w2 v.ownBlock B 5 1 v l.length (ints .u8 l) u→Blk u g2 23 (ints .u8 ds):=fun hA=>B2.grown hA.g (fun h=>hne2 _ h rfl);have hB2:=Nat.le_trans hB E2.size;(refine q0c<|tn ?_);apply z3e (R:=RA 6 v.ownBlock 5 1 l.length) (AA w2 v.ownBlock B 5 1 v l.length (ints .u8 l)) 7 (by kernel_rfl) (RA.refl _ _ _ _ _) (AA.new ov) AA.step;(apply DW_x (fun r w hA hH=>(q0d (v:=.pointer _) rfl).trans rfl);apply DW_x (fun r w hA hH=>(q0d (v:=.pointer _) rfl).trans rfl);apply DW_x (fun r w hA hH=>(q1l rfl).trans rfl);apply DW_x (fun r w hA hH=>(q0g rfl).trans rfl);apply DW_x (fun r w hA hH=>(X_ld rfl (BA hA) rfl).trans rfl));with_reducible apply DW_x (V:=fun _=>.slice (some ⟨g2,0,none⟩) 32 32)
  exact fun r u hA hH=>q8r (m:=32) (size:=1) (i:=0) (j:=32) rfl rfl rfl (by decide) (by decide);with_reducible apply DW_appS (v:=v) (u:=.slice (some ⟨g2,0,none⟩) 32 32) (q:=32) (size:=1) (bytes:=1) (m:=l.length) (base:=B) (xs:=ints .u8 l) (ys:=ints .u8 ds)
  exact fun r=>rfl;exact fun r=>rfl;rfl;exact fun u hA=>⟨hA.o,Nat.le_trans hB2 hA.g.size⟩;exact fun u hA=>⟨g2,g2+1,Row.of_blkH (BD hA) (by omega) (by unfold maxLen;omega) (by rw [q0t,hd]) fun j u h=>by rw [Nat.zero_add];exact h⟩;exact fun q hq=>q0w q hq;omega;omega;((with_reducible exact q2e);(exact rfl);(repeat (first | exact .inr (.inr (fun _ _=>by with_reducible rfl)) | (refine And.intro ?_ ?_) | exact .inr (.inl rfl) | exact .inl (by decide +kernel) | exact trivial | exact .inr (.inr (fun _ _=>rfl))));(try dsimp only [Nat.reduceAdd]));intro r w3 hA H;have o3:w3.ownsRow B 5 1 (r 6) (l.length+32) (ints .u8 l++ints .u8 ds):=H 6;have b3:=BA hA;have k3:EncK B p w w3:=(EncK.of_ext E2).trans (EncK.own ov hA.g);generalize r 6=v3 at *;have hv3:=q2a (Row.of_own o3);(refine Ls (q1l rfl)<|Ls (q0g rfl) ?_);refine q1a (v:=v3) rfl rfl hv3 b3 (by simp) ?_;intro w4 b4 hg4 _;have hne4:=z2t o3 b3;have o4:=q5k o3 hg4 fun q hq e=>hne4 q hq (Option.some.inj e).symm;(refine q0c ?_);refine q1z rfl rfl ?_;refine ⟨rfl,⟨v3,b4,?_⟩,k3.trans (EncK.set hg4)⟩;rw [q2i,List.length_append,hd];exact o4
end Go.Proofs.YtbolofkandcnlaaGreatDoor
namespace Go.Proofs.K
open Go.RowKit
section
variable {P:Program} {n:NN} {Q:Exit→Fr→World→Prop} {f:Fr} {w:World} {ops:Array Oper} {rest:List Oper} {d:Tmp} {t ty e:TypeId} {pos:String} {af:Array Edge} {x:Operand} {k:IntKind}
theorem z2d {dd:Option Tmp} {g:Option (Nat × Bool)} {T:TypeId} {v:Value} (hx:ev n f x=.iface T v):X P n ⟨dd,.panic x,t,pos,af,g⟩ f w=.halt (.panic (.iface T v)) w:=by
  simp [X,execOp,hx,Instr.panic,goPanic]
theorem q8i {dd:Option Tmp} {g:Option (Nat × Bool)} [hs:TInt P ty k] {v:Value} (hx:ev n f x=v):X P n ⟨dd,.makeInterface ty x,t,pos,af,g⟩ f w=.ok (.value (.iface ty v)) w:=by
  subst hx;simp [X,execOp,Instr.makeInterface,run_underlying hs.h]
theorem X_s2ap {dd:Option Tmp} {g:Option (Nat × Bool)} {m:Nat} [hs:TArr P ty m e] {A:Option Addr} {len c:Nat} (hx:ev n f x=.slice A len c) (h:m≤len):X P n ⟨dd,.sliceToArrayPointer ty x,t,pos,af,g⟩ f w=.ok (.value (.pointer A)) w:=by
  have h':¬ len < m:=by omega
  simp [X,execOp,hx,Instr.arrayAt,run_underlying hs.h,h']
theorem q8l {id:FuncId} [TFun P id] {l:List Operand} {vl:List Value} {tys:Array TypeId} {R:Ending→World→Prop} (c:Calls P id vl.toArray w R) (ha:l.map (ev n f)=vl)
    (h:∀ e w',R e w'→(∃ v,e=.returned v∧L P n ops Q rest (upd f d v) w')∨∃ ch,e=.panicked ch∧Q (.panic ch) f w'):L P n ops Q (⟨some d,.call ⟨.value (.func id),l.toArray,tys⟩,t,pos,af,none⟩ :: rest) f w :=
  L_callZ rfl (X_fn ha) c h
theorem z1g {id:FuncId} [TFun P id] {l:List Operand} {vl:List Value} {tys:Array TypeId} {first cap:Array Value} {R:Ending→World→Prop} (hx:ev n f x=.func (.func id) first cap) (c:Calls P id (first++vl.toArray++cap) w R) (ha:l.map (ev n f)=vl)
    (h:∀ e w',R e w'→(∃ v,e=.returned v∧L P n ops Q rest (upd f d v) w')∨∃ ch,e=.panicked ch∧Q (.panic ch) f w'):L P n ops Q (⟨some d,.call ⟨.value x,l.toArray,tys⟩,t,pos,af,none⟩ :: rest) f w :=
  L_callZ rfl (X_clo hx ha) c h
theorem z4f {N:Nat→Prop} {size m i j:Nat} [hs:TSlice P ty e] [hz:TSz P e size] {v:Value} {xs:List Value} {lo hi:Option Operand} (hx:ev n f x=v) (hr:RowN N w size v m xs)
    (hlo:match lo with | none=>i=0 | some o=>∃ k,ev n f o=.int k (i:Int)) (hhi:match hi with | none=>j=m | some o=>∃ k,ev n f o=.int k (j:Int)) (hij:i≤j) (hj:j≤m)
    (h:∀ u,RowN N w size u (j - i) ((xs.drop (i * size)).take ((j - i) * size))→L P n ops Q rest (upd f d u) w):L P n ops Q (⟨some d,.slice ty x lo hi none,t,pos,af,none⟩ :: rest) f w:=by
  obtain ⟨l,hh,hN,R⟩:=hr;obtain ⟨A,c,e,hc,hm⟩:=RowN.form ⟨l,hh,hN,R⟩;subst e;exact Ls (q5c hx hlo hhi hij (Nat.le_trans hj hc)) (h _ ⟨l,hh,hN,R.slice rfl hij hj⟩)
end
end Go.Proofs.K
namespace Ce
theorem numN_snoc:∀ (l:List Nat) (x:Nat),numN (l++[x])=numN l+x * 256 ^ l.length
  | [],x=>by simp [numN]
  | b :: l,x=>by
    show b+256 * numN (l++[x])=b+256 * numN l+x * 256 ^ (l.length+1);rw [numN_snoc l x,Nat.pow_succ,Nat.mul_add];have:256 * (x * 256 ^ l.length)=x * (256 ^ l.length * 256):=(by rw [← Nat.mul_assoc,Nat.mul_comm 256 x,Nat.mul_assoc,Nat.mul_comm 256 (256 ^ l.length)]);omega
end Ce
namespace Go.Proofs.YtbolofkandcnlaaGreatDoor
open Go.RowKit Go.Proofs.K
structure DecAt (N:Nat→Prop) (p:Nat) (w:World) (l:List Nat):Prop where
  h:∃ v,Blk w p 74 [v]∧RowN N w 1 v l.length (ints .u8 l)
  b:∀ b∈l,b < 256
  n:∀ q,N q→q ≠ p∧q < w.heap.size
theorem DecAt.grown {N:Nat→Prop} {p:Nat} {w w':World} {l:List Nat} {row:Option Nat} (h:DecAt N p w l) (hg:w.grownBy w' row) (hp:row ≠ some p) (hN:∀ q,row=some q→¬ N q):DecAt N p w' l:=by
  obtain ⟨⟨v,b,r⟩,h8,hn⟩:=h;exact ⟨⟨v,b.grown hg hp,r.grown hg hN⟩,h8,fun q hq=>⟨(hn q hq).1,Nat.lt_of_lt_of_le (hn q hq).2 hg.size⟩⟩
theorem DecAt.ext {N:Nat→Prop} {p:Nat} {w w':World} {l:List Nat} (h:DecAt N p w l) (E:Ext w w'):DecAt N p w' l:=by
  obtain ⟨⟨v,b,r⟩,h8,hn⟩:=h;exact ⟨⟨v,b.ext E,r.ext E⟩,h8,fun q hq=>⟨(hn q hq).1,Nat.lt_of_lt_of_le (hn q hq).2 E.size⟩⟩
theorem DecAt.lt {N:Nat→Prop} {p:Nat} {w:World} {l:List Nat} (h:DecAt N p w l):p < w.heap.size:=by
  obtain ⟨⟨v,b,r⟩,h8,hn⟩:=h;exact q2x b
abbrev erV (x:Nat):List PanicEntry:=[{ v:=.iface 47 (.int .i64 (x:Nat)),recovered:=false }]
def DecR {α:Type} (S:Ce.Ps α) (R:Rep α) (V:List Value→Value) (N:Nat→Prop) (p:Nat) (l:List Nat) (w:World) (e:Ending) (w':World):Prop :=
  w.grownBy w' (some p)∧match S l with
    | .err x=>e=.panicked (erV x)
    | .got a r=>∃ y,e=.returned (V y)∧R (fun k=>w.heap.size≤k∧k < w'.heap.size) w' y a∧DecAt N p w' r
set_option maxRecDepth 100000 in
set_option maxHeartbeats 1000000 in
theorem dtake (N:Nat→Prop) (p n:Nat) (l:List Nat) (w:World) (hn:n≤4294967296) (he:DecAt N p w l) :
    Calls Tryz.prog 113 #[.pointer (some ⟨p,0,none⟩),.int .i64 (n:Nat)] w fun e w'=>w.grownBy w' (some p)∧match Ce.take n l with
      | .err x=>e=.panicked (erV x)
      | .got a r=>∃ v,e=.returned v∧a.length=n∧RowN N w' 1 v a.length (ints .u8 a)∧DecAt N p w' r:=by
  refine q0l Tryz.func113 rfl Tryz.ntmps113 rfl ?_;obtain ⟨⟨v,bv,rv⟩,h8,hn8⟩:=he;obtain ⟨A,c,e,hlc,hcm⟩:=rv.form;subst e;(refine q0b<|q0a<|a_S rfl<|q0c<|tn<|q0b<|q0b<|q0a<|m_P rfl<|Ls (q1l rfl)<|Ls (q0g rfl)<|Ls (X_ld rfl bv rfl)<|Ls (q0h rfl)<|m_I rfl<|Ls (q1w rfl rfl)<|q0c<|tn ?_);refine q1d rfl (fun h=>?_) (fun h=>?_)
  · have hl:l.length < n:=(by omega);(refine q0a ?_);refine Ls (q8i rfl) ?_;refine L_halt rfl rfl (z2d rfl) ?_;refine ⟨rfl,World.grownBy.refl _ _,?_⟩;unfold Ce.take;rw [if_pos hl];rfl
  · have hl:n≤l.length:=(by omega);(refine q0o<|tn<|q0b<|q0a<|m_P rfl<|Ls (q1l rfl)<|Ls (q0g rfl)<|Ls (X_ld rfl bv rfl)<|m_I rfl ?_);refine z4f (i:=0) (j:=n) rfl rv rfl ⟨_,rfl⟩ (by omega) hl ?_;intro u1 r1;have hu1:=r1.cell1;(refine Ls (q0e (v:=u1) rfl)<|q0c<|tn<|q0b<|q0a<|m_P rfl<|m_P rfl<|Ls (q1l rfl)<|Ls (q0g rfl)<|Ls (X_ld rfl bv rfl)<|m_I rfl ?_);refine z4f (i:=n) (j:=l.length) rfl rv ⟨_,rfl⟩ rfl hl (Nat.le_refl _) ?_;intro u2 r2;have hu2:=r2.cell1;(refine Ls (q1l rfl)<|Ls (q0g rfl) ?_);refine q1a (v:=u2) rfl rfl hu2 bv (by simp) ?_;intro w1 b1 hg1 _;(refine q0c<|tn<|q0b<|q0a<|Ls (q0d (v:=u1) rfl)<|Ls (q0e (v:=u1) rfl)<|q0c<|tn<|q0r ?_);refine q0i rfl rfl (v:=u1) rfl ?_;refine ⟨hg1,?_⟩;have hN:∀ q,some p=some q→¬ N q:=fun q hq h=>(by cases hq;exact (hn8 _ h).1 rfl);have ht:(l.take n).length=n:=(by rw [List.length_take];omega);unfold Ce.take;rw [if_neg (by omega)];refine ⟨u1,rfl,ht,(r1.re (by omega) ?_).grown hg1 hN,⟨u2,b1,(r2.re ?_ ?_).grown hg1 hN⟩,fun b hb=>h8 b (List.mem_of_mem_drop hb),fun q hq=>⟨(hn8 q hq).1,Nat.lt_of_lt_of_le (hn8 q hq).2 hg1.size⟩⟩
    · rw [Nat.zero_mul,List.drop_zero,Nat.mul_one,Nat.sub_zero,q8d]
    · rw [List.length_drop]
    · rw [Nat.mul_one,Nat.mul_one,ints_drop,q8d,List.take_of_length_le (by rw [List.length_drop];omega)]
theorem shlB {x i:Nat} (hx:x < 256) (hi:i≤7):IntKind.u64.wrap ((x:Int) * 2 ^ min ((8:Int) * (i:Int)).toNat IntKind.u64.bits)=((x * 256 ^ i:Nat):Int):=by
  have h1:((8:Int) * (i:Int)).toNat=8 * i:=by omega
  have h2:min (8 * i) IntKind.u64.bits=8 * i:=by
    show min (8 * i) 64=8 * i;omega
  have h3:x * 256 ^ i < 18446744073709551616:=by
    have h4:256 ^ i≤256 ^ 7:=Nat.pow_le_pow_right (by decide) hi;have h5:x * 256 ^ i≤255 * 256 ^ 7:=Nat.mul_le_mul (by omega) h4;exact Nat.lt_of_le_of_lt h5 (by decide)
  rw [h1,h2,show ((x:Int) * 2 ^ (8 * i))=((x * 256 ^ i:Nat):Int) by rw [show (256:Nat)=2 ^ 8 from rfl,← Nat.pow_mul];push_cast;rfl,q3m,Nat.mod_eq_of_lt h3]
theorem orB {s x i:Nat} (hs:s < 256 ^ i) (hx:x < 256) (hi:i≤7):bits .or .u64 (s:Int) ((x * 256 ^ i:Nat):Int)=((s+x * 256 ^ i:Nat):Int):=by
  have h4:256 ^ i≤256 ^ 7:=Nat.pow_le_pow_right (by decide) hi;have h5:x * 256 ^ i≤255 * 256 ^ 7:=Nat.mul_le_mul (by omega) h4;have h6:(255 * 256 ^ 7:Nat) < 18446744073709551616:=by decide
  have h7:(256 ^ 7:Nat) < 18446744073709551616:=by decide
  rw [bits_u64_or s _ (by omega) (by omega)];have h8:(256:Nat) ^ i=2 ^ (8 * i):=by rw [Nat.pow_mul]
  rw [h8] at hs ⊢;rw [Nat.or_comm,Nat.mul_comm,← Nat.two_pow_add_eq_or_of_lt hs,Nat.add_comm]
set_option maxRecDepth 100000 in
set_option maxHeartbeats 1000000 in
theorem dfixed (N:Nat→Prop) (p k:Nat) (l:List Nat) (w:World) (hk:k≤8) (he:DecAt N p w l) :
    Calls Tryz.prog 114 #[.pointer (some ⟨p,0,none⟩),.int .i64 (k:Nat)] w fun e w'=>w.grownBy w' (some p)∧match Ce.num k l with
      | .err x=>e=.panicked (erV x)
      | .got a r=>e=.returned (.int .u64 (a:Nat))∧a < 256 ^ k∧DecAt N p w' r:=by
  refine q0l Tryz.func114 rfl Tryz.ntmps114 rfl ?_;have hl8:∀ b∈l,b < 256:=he.b;have ct:=dtake N p k l w (by omega) he;have hnum:∀ x,Ce.take k l=x→Ce.num k l=x.bind fun l=>Ce.Ps.pure (Ce.numN l):=fun x h=>by rw [← h];rfl
  (refine q0b<|q0a<|a_I rfl<|q0c<|tn<|q0b<|q0a<|a_I rfl<|q0c<|tn<|q0b<|q0b<|q0a<|m_P rfl<|m_I rfl ?_);cases hS:Ce.take k l with
  | err x =>
    rw [hS] at ct;rw [hnum _ hS];refine q8l ct rfl ?_;rintro e w1 ⟨hg1,rfl⟩;exact .inr ⟨_,rfl,rfl,hg1,rfl⟩
  | got a r =>
    rw [hS] at ct;rw [hnum _ hS];have ha8:∀ b∈a,b < 256:=by
      have h1:Ce.take k l=.got a r:=hS;unfold Ce.take at h1;split at h1
      · cases h1
      · cases h1
        exact fun b hb=>hl8 b (List.mem_of_mem_take hb)
    refine L_fn ct rfl ?_;rintro e w1 ⟨hg1,v,rfl,hak,rv,e1⟩;refine ⟨_,rfl,?_⟩;obtain ⟨A,c,e,hlc,hcm⟩:=rv.form;subst e;(refine Ls (q0h rfl)<|m_I rfl<|q0c<|tn<|q0j ?_);refine q1k (fun q f w'=>∃ i,q=k - i∧i≤k∧f 5=.int .u64 (Ce.numN (a.take i):Nat)∧f 10=.slice A a.length c∧f 11=.int .i64 (a.length:Nat)∧f 12=.int .i64 (i:Nat)∧w'=w1) k ?_ ?_
    · exact ⟨0,rfl,by omega,rfl,rfl,rfl,rfl,rfl⟩
    · rintro q f w2 ⟨i,rfl,hi,f5,f10,f11,f12,rfl⟩;rw [fold f5,fold f10,fold f11,fold f12];have hlt:=Ce.num_lt (a.take i) fun b hb=>ha8 b (List.mem_of_mem_take hb);rw [List.length_take,Nat.min_eq_left (by omega)] at hlt;(refine q0b<|q0a<|Ls (q1w rfl rfl)<|q0c<|tn<|q0b ?_);refine q1d rfl (fun h=>?_) (fun h=>?_)
      · have hi':i < a.length:=(by omega);obtain ⟨x,hx⟩:∃ x,a[i]?=some x:=⟨_,List.getElem?_eq_getElem hi'⟩;have hx8:=ha8 x (List.mem_of_getElem? hx);have hi7:i≤7:=(by omega);obtain ⟨b,o,c',e,_,_,_,hcell⟩:=rv.at hi';cases e
        (refine q0o<|tn<|q0b<|q0j<|q0b<|q0a<|m_I rfl<|Ls (q0n rfl rfl (by omega))<|Ls (q2l rfl hcell (j:=i) (by omega) (q9s hx))<|a_I rfl<|a_I rfl<|q0c<|tn<|q0a<|m_I rfl<|m_I rfl<|Ls ((q1q rfl).trans (by rw [q3m,Nat.mod_eq_of_lt (show x < 18446744073709551616 by omega)]))<|m_I rfl<|Ls (q3q rfl rfl (by omega))<|Ls ((q6h rfl rfl (by omega)).trans (by rw [shlB hx8 hi7]))<|Ls ((X_or rfl rfl).trans (by rw [orB hlt hx8 hi7]))<|a_I rfl<|q0c<|bn<|tn<|q0a<|Ls (q1e rfl rfl (by omega))<|m_I rfl<|q0c<|tn ?_);refine ⟨k - (i+1),by omega,i+1,rfl,by omega,?_,rfl,rfl,rfl,rfl⟩;have:a.take (i+1)=a.take i++[x]:=(by rw [List.take_add_one,hx];rfl);rw [this,Ce.numN_snoc,List.length_take,Nat.min_eq_left (by omega)];rfl
      · obtain rfl:i=k:=(by omega);(refine q1b<|te<|te<|bx<|tn<|q0b<|q0a<|m_I rfl<|a_I rfl<|q0c<|tn<|q0r ?_);refine q0i rfl rfl (v:=.int .u64 _) rfl ?_;rw [List.take_of_length_le (by omega)] at hlt ⊢;exact ⟨hg1,rfl,hlt,e1⟩
end Go.Proofs.YtbolofkandcnlaaGreatDoor
namespace Go.Proofs.YtbolofkandcnlaaGreatDoor
open Go.RowKit Go.Proofs.K
theorem elemB {B p:Nat} {N:Nat→Prop} {l:List Nat} {w0:World} (h:∀ e∈l,e < 256):q8z 32 #[ptr p] #[] B p N (numR .u8) (fun x=>x.headD .nilIface) Ce.byteC.w l w0:=by
  intro i a ha w x l0 k hx hlen hB he;obtain rfl:x=[.int .u8 (a:Nat)]:=hx;have h1:=h a (List.mem_of_getElem? ha)
  rw [show Ce.byteC.w a=[a] from by
    show Ce.byN 1 a=[a]
    simp [Ce.byN,List.range_succ]
    omega]
  exact gbyte B p a l0 w (by omega) hB he
def sumR:Rep Nat:=fun _ _ x a=>∃ z:Int,x=[.int .i64 z]∧u64v z=a∧-9223372036854775808≤z∧z≤9223372036854775807
theorem q2r:sumR.Ok:=⟨fun h _=>h,fun h _ _=>h,fun h _ _=>h,fun h=>h,fun h v hv=>by
  obtain ⟨z,h,_⟩:=h
  subst h
  simp at hv
  subst hv
  rfl⟩
theorem elemI {B p:Nat} {N:Nat→Prop} {l:List Nat} {w0:World}:q8z 36 #[ptr p] #[] B p N sumR (fun x=>x.headD .nilIface) (Ce.numC 8).w l w0:=by
  intro i a ha w x l0 k hx hlen hB he;obtain ⟨z,rfl,rfl,_⟩:=hx;exact gsum B p z l0 w (by omega) hB he
theorem elemD {B p:Nat} {N:Nat→Prop} {l:List (List Nat)} {w0:World}:q8z 34 #[ptr p] #[] B p N (byR 32) (fun x=>.agg x.toArray) (Ce.raw 32).w l w0:=by
  intro i a ha w x l0 k hx hlen hB he;obtain ⟨rfl,hl⟩:=hx;exact gdigest B p a l0 w hl (by omega) hB he
structure CerAt (N:Nat→Prop) (w:World) (c:Ce.Cert) (qb:ByteArray) (s1 p1 p2 p3 b1 o1 o2 o3 o4:Value):Prop where
  q:c.q=sb qb
  s1:slR 1 sumR N w [s1] c.sums
  p1:slR 1 (slR 2 exR) N w [p1] c.rows
  p2:slR 6 lpR N w [p2] c.ps
  p3:slR 6 lpR N w [p3] c.pz
  b1:slR 1 (slR 2 exR) N w [b1] c.batch
  o1:slR 2 exR N w [o1] c.orow
  o2:slR 2 exR N w [o2] c.ornd
  o3:slR 1 (slR 1 (numR .u64)) N w [o3] c.cols
  o4:slR 32 (byR 32) N w [o4] c.nodes
def cerC (c:Ce.Cert) (qb:ByteArray) (s1 p1 p2 p3 b1 o1 o2 o3 o4:Value):List Value :=
  [.string qb,.int .i64 (c.log:Nat)]++ints .u8 c.root++[.int .i64 (c.sR:Nat),.int .i64 (c.sC:Nat),.int .i64 (c.sB:Nat),.int .i64 (c.sT:Nat),s1,p1,p2,p3,b1,.int .u64 (c.v.1:Nat),.int .u64 (c.v.2:Nat),o1,o2,o3,o4]
theorem q2u {c:Ce.Cert} {qb:ByteArray} {s1 p1 p2 p3 b1 o1 o2 o3 o4:Value} (hc:c.root.length=32) {j:Nat} {u:Value} (h:[.int .i64 (c.sR:Nat),.int .i64 (c.sC:Nat),.int .i64 (c.sB:Nat),.int .i64 (c.sT:Nat),s1,p1,p2,p3,b1,.int .u64 (c.v.1:Nat),.int .u64 (c.v.2:Nat),o1,o2,o3,o4][j]?=some u):(cerC c qb s1 p1 p2 p3 b1 o1 o2 o3 o4)[j+34]?=some u:=by
  unfold cerC;rw [List.append_assoc,List.getElem?_append_right (by simp),List.getElem?_append_right (by rw [q0t,hc];simp)];rw [show j+34 - [Value.string qb,.int .i64 (c.log:Nat)].length - (ints .u8 c.root).length=j by rw [q0t,hc];simp];exact h
def cerR:Rep Ce.Cert:=fun N w x c=>∃ qb s1 p1 p2 p3 b1 o1 o2 o3 o4,x=cerC c qb s1 p1 p2 p3 b1 o1 o2 o3 o4∧c.root.length=32∧CerAt N w c qb s1 p1 p2 p3 b1 o1 o2 o3 o4
theorem CerAt.ext {N:Nat→Prop} {w w':World} {c:Ce.Cert} {qb:ByteArray} {s1 p1 p2 p3 b1 o1 o2 o3 o4:Value} (h:CerAt N w c qb s1 p1 p2 p3 b1 o1 o2 o3 o4) (E:Ext w w'):CerAt N w' c qb s1 p1 p2 p3 b1 o1 o2 o3 o4 :=
  ⟨h.q,(q1j (by decide) q2r).ext h.s1 E,q1i.ext h.p1 E,q1t.ext h.p2 E,q1t.ext h.p3 E,q1i.ext h.b1 E,q0y.ext h.o1 E,q0y.ext h.o2 E,q3u.ext h.o3 E,q4n.ext h.o4 E⟩
theorem CerAt.keep {N:Nat→Prop} {w w':World} {c:Ce.Cert} {qb:ByteArray} {s1 p1 p2 p3 b1 o1 o2 o3 o4:Value} {B g:Nat} {T:TypeId} (h:CerAt N w c qb s1 p1 p2 p3 b1 o1 o2 o3 o4) (k:KeepTy B g T w w') (hN:∀ q,N q→q ≠ g∧q < B):CerAt N w' c qb s1 p1 p2 p3 b1 o1 o2 o3 o4 :=
  ⟨h.q,(q1j (by decide) q2r).keep h.s1 k hN,q1i.keep h.p1 k hN,q1t.keep h.p2 k hN,q1t.keep h.p3 k hN,q1i.keep h.b1 k hN,q0y.keep h.o1 k hN,q0y.keep h.o2 k hN,q3u.keep h.o3 k hN,q4n.keep h.o4 k hN⟩
theorem CerAt.tight {N:Nat→Prop} {w:World} {c:Ce.Cert} {qb:ByteArray} {s1 p1 p2 p3 b1 o1 o2 o3 o4:Value} (h:CerAt N w c qb s1 p1 p2 p3 b1 o1 o2 o3 o4):CerAt (fun k=>N k∧k < w.heap.size) w c qb s1 p1 p2 p3 b1 o1 o2 o3 o4 :=
  ⟨h.q,(q1j (by decide) q2r).tight h.s1,q1i.tight h.p1,q1t.tight h.p2,q1t.tight h.p3,q1i.tight h.b1,q0y.tight h.o1,q0y.tight h.o2,q3u.tight h.o3,q4n.tight h.o4⟩
structure Cert64 (c:Ce.Cert):Prop where
  root:c.root.length=32
  log:c.log < 4294967296
  sR:c.sR < 4294967296
  sC:c.sC < 4294967296
  sB:c.sB < 4294967296
  sT:c.sT < 4294967296
  q:c.q.length < 4294967296
  sums:c.sums.length < 4294967296
  rows:c.rows.length < 4294967296∧∀ r∈c.rows,Rd64 r
  ps:c.ps.length < 4294967296∧∀ r∈c.ps,Lp64 r
  pz:c.pz.length < 4294967296∧∀ r∈c.pz,Lp64 r
  batch:c.batch.length < 4294967296∧∀ r∈c.batch,Rd64 r
  v:E64 c.v
  orow:Rd64 c.orow
  ornd:Rd64 c.ornd
  cols:c.cols.length < 4294967296∧∀ r∈c.cols,r.length < 4294967296∧∀ e∈r,e < 18446744073709551616
  nodes:c.nodes.length < 4294967296
  all:(Ce.certC.w c).length≤99990000
theorem by4_len:∀ l:List Nat,(l.flatMap (Ce.byN 4)).length=4 * l.length
  | []=>rfl
  | x :: l=>by
    rw [List.flatMap_cons,List.length_append,Ce.byN_len,by4_len l,List.length_cons];omega
theorem cert_w (c:Ce.Cert):Ce.certC.w c=(Ce.lst Ce.byteC).w c.q++(Ce.byN 4 c.log++(c.root++(Ce.byN 4 c.sR++(Ce.byN 4 c.sC++(Ce.byN 4 c.sB++(Ce.byN 4 c.sT++((Ce.lst (Ce.numC 8)).w c.sums++((Ce.lst Ce.roundC).w c.rows++((Ce.lst Ce.lpC).w c.ps++((Ce.lst Ce.lpC).w c.pz++((Ce.lst Ce.roundC).w c.batch++(Ce.extC.w c.v++(Ce.roundC.w c.orow++(Ce.roundC.w c.ornd++((Ce.lst (Ce.lst Ce.wordC)).w c.cols++(Ce.lst (Ce.raw 32)).w c.nodes))))))))))))))):=rfl
theorem round_len (l:List (Nat × Nat)):(Ce.roundC.w l).length=4+(l.flatMap Ce.extC.w).length:=z3t _ _
theorem DecR.err {α:Type} {S:Ce.Ps α} {R:Rep α} {V:List Value→Value} {N:Nat→Prop} {p x:Nat} {l:List Nat} {w w':World} (hg:w.grownBy w' (some p)) (h:S l=.err x):DecR S R V N p l w (.panicked (erV x)) w':=⟨hg,by rw [h]⟩
theorem DecR.got {α:Type} {S:Ce.Ps α} {R:Rep α} {V:List Value→Value} {N:Nat→Prop} {p:Nat} {l r:List Nat} {a:α} {w w':World} (hg:w.grownBy w' (some p)) (h:S l=.got a r) (y:List Value) (hy:R (fun k=>w.heap.size≤k∧k < w'.heap.size) w' y a) (he:DecAt N p w' r):DecR S R V N p l w (.returned (V y)) w':=⟨hg,by rw [h];exact ⟨y,rfl,hy,he⟩⟩
abbrev hdV:List Value→Value:=fun y=>y.headD .nilIface
abbrev agV:List Value→Value:=fun y=>.agg y.toArray
theorem i64N {x:Nat} (h:x < 4294967296):IntKind.i64.wrap (x:Int)=(x:Int):=by rw [IntKind.wrap_i64];omega
theorem u64v_i64 {x:Nat} (h:x < 18446744073709551616):u64v (IntKind.i64.wrap (x:Int))=x:=by
  unfold u64v;rw [IntKind.wrap_i64];omega
theorem i64_rng (z:Int):-9223372036854775808≤IntKind.i64.wrap z∧IntKind.i64.wrap z≤9223372036854775807:=by rw [IntKind.wrap_i64];omega
theorem z0w (x:Nat) (w:World):Calls Tryz.prog 115 #[.int .u64 (x:Nat)] w fun e w'=>e=.returned (.bool (decide (x < Ce.pr)))∧w'=w:=by
  refine q0l Tryz.func115 rfl Tryz.ntmps115 rfl ?_;(refine q0b<|q0a<|a_B rfl<|q0c<|tn<|q0b<|q0a<|m_I rfl<|Ls (q1w rfl rfl)<|a_B rfl<|q0c<|tn<|q0r ?_);refine q0i rfl rfl (v:=.bool _) rfl ⟨?_,rfl⟩;have:(decide ((x:Int) < 18446744069414584321))=decide (x < Ce.pr):=by
    apply decide_eq_decide.2;unfold Ce.pr;omega
  rw [← this]
set_option maxRecDepth 100000 in
set_option maxHeartbeats 1000000 in
theorem dint (N:Nat→Prop) (p:Nat) (l:List Nat) (w:World) (he:DecAt N p w l) :
    Calls Tryz.prog 70 #[.pointer (some ⟨p,0,none⟩)] w fun e w'=>w.grownBy w' (some p)∧match Ce.num 4 l with
      | .err x=>e=.panicked (erV x)
      | .got a r=>e=.returned (.int .i64 (a:Nat))∧a < 4294967296∧DecAt N p w' r:=by
  refine q0l Tryz.func70 rfl Tryz.ntmps70 rfl ?_;have ct:=dfixed N p 4 l w (by omega) he;(refine q0b<|q0a<|a_I rfl<|q0c<|tn<|q0b<|q0a<|m_P rfl ?_);cases hS:Ce.num 4 l with
  | err x =>
    rw [hS] at ct;refine q8l ct rfl ?_;rintro e w1 ⟨hg1,rfl⟩;exact .inr ⟨_,rfl,rfl,hg1,rfl⟩
  | got a r =>
    rw [hS] at ct;refine L_fn ct rfl ?_;rintro e w1 ⟨hg1,rfl,ha,e1⟩;refine ⟨_,rfl,?_⟩;have ha':a < 4294967296:=ha;(refine Ls ((q1q rfl).trans (by rw [i64N ha']))<|a_I rfl<|q0c<|tn<|q0r ?_);exact q0i rfl rfl (v:=.int .i64 _) rfl ⟨hg1,rfl,ha,e1⟩
set_option maxRecDepth 100000 in
set_option maxHeartbeats 1000000 in
theorem dsum (N:Nat→Prop) (p:Nat) (l:List Nat) (w:World) (he:DecAt N p w l) :
    Calls Tryz.prog 73 #[.pointer (some ⟨p,0,none⟩)] w (DecR (Ce.numC 8).p sumR hdV N p l w):=by
  refine q0l Tryz.func73 rfl Tryz.ntmps73 rfl ?_;have ct:=dfixed N p 8 l w (by omega) he;(refine q0b<|q0a<|a_I rfl<|q0c<|tn<|q0b<|q0a<|m_P rfl ?_);cases hS:Ce.num 8 l with
  | err x =>
    rw [hS] at ct;refine q8l ct rfl ?_;rintro e w1 ⟨hg1,rfl⟩;exact .inr ⟨_,rfl,rfl,DecR.err hg1 hS⟩
  | got a r =>
    rw [hS] at ct;refine L_fn ct rfl ?_;rintro e w1 ⟨hg1,rfl,ha,e1⟩;refine ⟨_,rfl,?_⟩;(refine Ls (q1q rfl)<|a_I rfl<|q0c<|tn<|q0r ?_);exact q0i rfl rfl (v:=.int .i64 _) rfl (DecR.got hg1 hS [_] ⟨_,rfl,u64v_i64 ha,i64_rng _⟩ e1)
set_option maxRecDepth 100000 in
set_option maxHeartbeats 1000000 in
theorem dbyte (N:Nat→Prop) (p:Nat) (l:List Nat) (w:World) (he:DecAt N p w l) :
    Calls Tryz.prog 69 #[.pointer (some ⟨p,0,none⟩)] w (DecR Ce.byteC.p (numR .u8) hdV N p l w):=by
  refine q0l Tryz.func69 rfl Tryz.ntmps69 rfl ?_;have ct:=dtake N p 1 l w (by omega) he;have hb:∀ x,Ce.take 1 l=x→Ce.byteC.p l=x.bind fun a=>Ce.Ps.pure (Ce.numN a):=fun x h=>by rw [← h];rfl
  (refine q0b<|q0a<|a_I rfl<|q0c<|tn<|q0b<|q0a<|m_P rfl ?_);cases hS:Ce.take 1 l with
  | err x =>
    rw [hS] at ct;refine q8l ct rfl ?_;rintro e w1 ⟨hg1,rfl⟩;exact .inr ⟨_,rfl,rfl,DecR.err hg1 (hb _ hS)⟩
  | got a r =>
    rw [hS] at ct;refine L_fn ct rfl ?_;rintro e w1 ⟨hg1,v,rfl,hak,rv,e1⟩;refine ⟨_,rfl,?_⟩;obtain ⟨x,rfl⟩:∃ x,a=[x]:=by
      match a,hak with
      | [x],_=>exact ⟨x,rfl⟩
    obtain ⟨b,o,c',rfl,_,_,_,hcell⟩:=rv.at (k:=0) (by simp);(refine Ls (q0n (i:=0) rfl rfl (by simp))<|Ls (q2l rfl hcell (j:=0) (by omega) rfl)<|a_I rfl<|q0c<|tn<|q0r ?_);exact q0i rfl rfl (v:=.int .u8 _) rfl (DecR.got hg1 (hb _ hS) [.int .u8 ((Ce.numN [x]:Nat):Int)] rfl e1)
set_option maxRecDepth 100000 in
set_option maxHeartbeats 1000000 in
theorem ddigest (N:Nat→Prop) (p:Nat) (l:List Nat) (w:World) (he:DecAt N p w l) :
    Calls Tryz.prog 71 #[.pointer (some ⟨p,0,none⟩)] w (DecR (Ce.raw 32).p (byR 32) agV N p l w):=by
  refine q0l Tryz.func71 rfl Tryz.ntmps71 rfl ?_;(refine q0b<|q0a ?_);refine q0z ?_;intro g2 w2 B2 hg2 E2 hs2;have he2:=he.ext E2;have hpl:=he.lt;have ct:=dtake N p 32 l w2 (by omega) he2;(refine q0c<|tn<|q0b<|q0a<|m_P rfl ?_);cases hS:Ce.take 32 l with
  | err x =>
    rw [hS] at ct;refine q8l ct rfl ?_;rintro e w1 ⟨hg1,rfl⟩;exact .inr ⟨_,rfl,rfl,DecR.err (q0f (E2.row _) hg1 fun q h=>.inl h) hS⟩
  | got a r =>
    rw [hS] at ct;refine L_fn ct rfl ?_;rintro e w1 ⟨hg1,v,rfl,hak,rv,e1⟩;refine ⟨_,rfl,?_⟩;obtain ⟨b,o,c',rfl,_,_,_,hcell⟩:=rv.at (k:=0) (by omega);have B1:=B2.grown hg1 (by intro h;cases h;omega);have hcl:(ints .u8 a).length=32:=(by rw [q0t,hak]);refine Ls (X_s2ap (m:=32) rfl (by omega)) ?_;refine Ls (q2s (size:=32) (cs:=ints .u8 a) rfl hcell hcl) ?_;refine q0m rfl rfl hcl q0w B1 rfl ?_;intro w3 B3 hg3 hs3;(refine q0c<|tn<|q0r ?_);refine q1h rfl rfl (Res.cellA inferInstance rfl (B3.range (o:=0) (fun j u h=>by simpa using h)) hcl .nil) ?_;have hg13:=q0f (q0f (E2.row (some p)) hg1 fun q h=>.inl h) hg3 fun q h=>(by cases h;exact .inr (by omega));refine DecR.got hg13 hS (ints .u8 a) ⟨rfl,hak⟩ (e1.grown hg3 (by intro h;cases h;omega) fun q h k=>by cases h;have:=(he.n _ k).2;omega)
set_option maxRecDepth 100000 in
set_option maxHeartbeats 1000000 in
theorem dword (N:Nat→Prop) (p:Nat) (l:List Nat) (w:World) (he:DecAt N p w l) :
    Calls Tryz.prog 117 #[.pointer (some ⟨p,0,none⟩)] w (DecR Ce.wordC.p (numR .u64) hdV N p l w):=by
  refine q0l Tryz.func117 rfl Tryz.ntmps117 rfl ?_;have ct:=dfixed N p 8 l w (by omega) he;have hb:∀ x,Ce.num 8 l=x→Ce.wordC.p l=x.bind (Ce.chk fun x=>decide (x < Ce.pr)):=fun x h=>by rw [← h];rfl
  (refine q0b<|q0a<|a_I rfl<|q0c<|tn<|q0b<|q0a<|m_P rfl ?_);cases hS:Ce.num 8 l with
  | err x =>
    rw [hS] at ct;refine q8l ct rfl ?_;rintro e w1 ⟨hg1,rfl⟩;exact .inr ⟨_,rfl,rfl,DecR.err hg1 (hb _ hS)⟩
  | got a r =>
    rw [hS] at ct;refine L_fn ct rfl ?_;rintro e w1 ⟨hg1,rfl,ha,e1⟩;refine ⟨_,rfl,?_⟩;have hS2:=hb _ hS;(refine a_I rfl<|q0c<|tn<|q0b<|q0b<|q0a<|m_I rfl ?_);refine L_fn (z0w a w1) rfl ?_;rintro e _ ⟨rfl,rfl⟩;refine ⟨_,rfl,?_⟩;by_cases hv:a < Ce.pr
    · rw [decide_eq_true hv];(refine Ls (q2d rfl)<|q0c<|tn ?_);refine z0h rfl (fun h=>by cases h) (fun _=>?_);(refine q0o<|tn<|q0b<|q0a<|m_I rfl<|a_I rfl<|q0c<|tn<|q0r ?_);refine q0i rfl rfl (v:=.int .u64 _) rfl (DecR.got hg1 (hS2.trans ?_) [.int .u64 ((a:Nat):Int)] rfl e1);show Ce.chk (fun x=>decide (x < Ce.pr)) a r=_;unfold Ce.chk;rw [if_pos (decide_eq_true hv)]
    · rw [decide_eq_false hv];(refine Ls (q2d rfl)<|q0c<|tn ?_);refine z0h rfl (fun _=>?_) (fun h=>by cases h);(refine q0a ?_);refine Ls (q8i rfl) ?_;refine L_halt rfl rfl (z2d rfl) ?_;refine ⟨rfl,DecR.err hg1 (hS2.trans ?_)⟩;show Ce.chk (fun x=>decide (x < Ce.pr)) a r=_;unfold Ce.chk;rw [if_neg (by simpa using hv)]
theorem ext_err1 {l:List Nat} {x:Nat} (h:Ce.num 8 l=.err x):Ce.extC.p l=.err x:=by
  show ((Ce.num 8 l).bind _).bind _=_;rw [h];rfl
theorem ext_err2 {l r:List Nat} {a x:Nat} (h:Ce.num 8 l=.got a r) (h2:Ce.num 8 r=.err x):Ce.extC.p l=.err x:=by
  show ((Ce.num 8 l).bind _).bind _=_;rw [h];show ((Ce.num 8 r).bind _).bind _=_;rw [h2];rfl
theorem ext_got {l r r':List Nat} {a b:Nat} (h:Ce.num 8 l=.got a r) (h2:Ce.num 8 r=.got b r'):Ce.extC.p l=if decide (a < Ce.pr) && decide (b < Ce.pr) then .got (a,b) r' else .err 5:=by
  show ((Ce.num 8 l).bind _).bind _=_;rw [h];show ((Ce.num 8 r).bind _).bind _=_;rw [h2];rfl
set_option maxRecDepth 100000 in
set_option maxHeartbeats 2000000 in
theorem dext (N:Nat→Prop) (p:Nat) (l:List Nat) (w:World) (he:DecAt N p w l) :
    Calls Tryz.prog 78 #[.pointer (some ⟨p,0,none⟩)] w (DecR Ce.extC.p exR agV N p l w):=by
  refine q0l Tryz.func78 rfl Tryz.ntmps78 rfl ?_;(refine q0b<|q0a ?_);refine q0z ?_;intro g2 w2 B2 hg2 E2 hs2;have he2:=he.ext E2;have hpl:=he.lt;have ct:=dfixed N p 8 l w2 (by omega) he2;(refine q0c<|tn<|q0b<|q0a<|m_P rfl ?_);cases hS:Ce.num 8 l with
  | err x =>
    rw [hS] at ct;refine q8l ct rfl ?_;rintro e w3 ⟨hg3,rfl⟩;exact .inr ⟨_,rfl,rfl,DecR.err (q0f (E2.row _) hg3 fun q h=>.inl h) (ext_err1 hS)⟩
  | got a r =>
    rw [hS] at ct;refine L_fn ct rfl ?_;rintro e w3 ⟨hg3,rfl,ha,e3⟩;refine ⟨_,rfl,?_⟩;have ct:=dfixed N p 8 r w3 (by omega) e3;have hg23:=q0f (E2.row (some p)) hg3 fun q h=>.inl h;have B3:=B2.grown hg3 (by intro h;cases h;omega);(refine m_P rfl ?_);cases hS2:Ce.num 8 r with
    | err x =>
      rw [hS2] at ct;refine q8l ct rfl ?_;rintro e w4 ⟨hg4,rfl⟩;exact .inr ⟨_,rfl,rfl,DecR.err (q0f hg23 hg4 fun q h=>.inl h) (ext_err2 hS hS2)⟩
    | got b r' =>
      rw [hS2] at ct;refine L_fn ct rfl ?_;rintro e w4 ⟨hg4,rfl,hb,e4⟩;refine ⟨_,rfl,?_⟩;have hg24:=q0f hg23 hg4 fun q h=>.inl h;have B4:=B3.grown hg4 (by intro h;cases h;omega);refine Ls (X_mkEx rfl rfl) ?_;refine q0z ?_;intro g5 w5 B5 hg5 E5 hs5;refine q0m (l:=exC a b) rfl rfl rfl q4t B5 rfl ?_;intro w6 B6 hg6 hs6;have B4':=(B4.ext E5).grown hg6 (by intro h;cases h;have:=q2x B4;omega);have hs3:=hg3.size;have hs4:=hg4.size;have hg25:=q0f hg24 (E5.row (some p)) fun q h=>.inl h;have hg26:=q0f hg25 hg6 fun q h=>(by cases h;exact .inr (by omega));have e6:DecAt N p w6 r':=(e4.ext E5).grown hg6 (by intro h;cases h;omega) fun q h k=>(by cases h;have:=(he.n _ k).2;omega);have hx:=ext_got hS hS2;(refine q0c<|tn<|q0b<|q0b<|q0a<|Ls (q0g rfl)<|Ls (X_ld rfl B6 rfl) ?_);refine L_fn (z0w a w6) rfl ?_;rintro e w6 ⟨rfl,rfl⟩;refine ⟨_,rfl,?_⟩;by_cases hv:a < Ce.pr
      · rw [decide_eq_true hv];(refine Ls (q2d rfl)<|m_B rfl<|Lg2 rfl rfl rfl (q0g rfl)<|Lg2 rfl rfl rfl (X_ld rfl B6 rfl) ?_);refine q2h rfl rfl rfl ?_;refine L_fn (z0w b w6) rfl ?_;rintro e w6 ⟨rfl,rfl⟩;refine ⟨_,rfl,?_⟩;by_cases hv2:b < Ce.pr
        · rw [decide_eq_true hv2];(refine Lg2 rfl rfl rfl (q2d rfl)<|Ls (q0p (v:=.bool _) rfl rfl)<|q0c<|tn<|q0q rfl<|q0o<|tn<|q0b<|q0a<|Ls (q2o rfl B6 rfl) ?_);refine q0m (l:=exC a b) rfl rfl rfl q4t B4' rfl ?_;intro w7 B7 hg7 hs7;(refine q0c<|tn<|q0r ?_);refine q1h rfl rfl (Res.cellA inferInstance rfl (B7.range (o:=0) (fun j u h=>by simpa using h)) rfl .nil) ?_;refine DecR.got (a:=(a,b)) (q0f hg26 hg7 fun q h=>by cases h;exact .inr (by omega)) (hx.trans ?_) (exC a b) rfl (e6.grown hg7 (by intro h;cases h;omega) fun q h k=>by cases h;have:=(he.n _ k).2;omega);rw [if_pos (by simp [hv,hv2])]
        · rw [decide_eq_false hv2];(refine Lg2 rfl rfl rfl (q2d rfl)<|Ls (q0p (v:=.bool _) rfl rfl)<|q0c<|tn<|q0v rfl<|q0a ?_);refine Ls (q8i rfl) ?_;refine L_halt rfl rfl (z2d rfl) ?_;refine ⟨rfl,DecR.err hg26 (hx.trans ?_)⟩;rw [if_neg (by simp [hv2])]
      · rw [decide_eq_false hv];(refine Ls (q2d rfl)<|m_B rfl<|Lo2 rfl rfl rfl rfl<|Lo2 rfl rfl rfl rfl<|Lo2 rfl rfl rfl rfl<|Lo2 rfl rfl rfl rfl<|Ls (q0k (v:=.bool _) rfl rfl)<|q0c<|tn<|q0v rfl<|q0a ?_);refine Ls (q8i rfl) ?_;refine L_halt rfl rfl (z2d rfl) ?_;refine ⟨rfl,DecR.err hg26 (hx.trans ?_)⟩;rw [if_neg (by simp [hv])]
end Go.Proofs.YtbolofkandcnlaaGreatDoor
