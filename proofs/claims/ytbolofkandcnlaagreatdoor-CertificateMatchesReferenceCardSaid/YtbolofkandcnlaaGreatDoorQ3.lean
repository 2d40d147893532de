/- VL, VM, VO, VP, VQ, VR, VS, VU, VW. -/
import Derived.Test.YtbolofkandcnlaaGreatDoorQ2
import Derived.RecoverIn
import Derived.WideLaws
import Derived.TacticsInMore
namespace Ce
def Res.app {α:Type} (xs:List α):Res (List α)→Res (List α)
  | .err e=>.err e
  | .got l r=>.got (xs++l) r
theorem Res.app_nil {α:Type} (x:Res (List α)):Res.app [] x=x:=by cases x <;> rfl
theorem Res.app_app {α:Type} (xs ys:List α) (x:Res (List α)):Res.app xs (Res.app ys x)=Res.app (xs++ys) x:=by
  cases x with
  | err e=>rfl
  | got l r =>
    show Res.got (xs++(ys++l)) r=Res.got (xs++ys++l) r;rw [List.append_assoc]
theorem rep_err {α:Type} {p:Ps α} {b:List Nat} {e:Nat} (h:p b=.err e) (n:Nat):rep p (n+1) b=.err e:=by
  rw [z1j,h];rfl
theorem rep_got {α:Type} {p:Ps α} {b r:List Nat} {a:α} (h:p b=.got a r) (n:Nat):rep p (n+1) b=Res.app [a] (rep p n r):=by
  rw [z1j,h];show (rep p n r).bind _=_;cases rep p n r <;> rfl
end Ce
namespace Go.Proofs.YtbolofkandcnlaaGreatDoor
open Go.RowKit Go.Proofs.K
def DecF (id:FuncId) (first cap:Array Value) (p:Nat) (N:Nat→Prop) {α:Type} (S:Ce.Ps α) (R:Rep α) (V:List Value→Value):Prop :=
  ∀ (w:World) (l:List Nat),DecAt N p w l→Calls Tryz.prog id (first++#[]++cap) w (DecR S R V N p l w)
structure OutAt {α:Type} (T:TypeId) (size:Nat) (R:Rep α) (w0 w:World) (v:Value) (xs:List α):Prop where
  h:∃ ys:List (List Value),ys.length=xs.length∧(∀ y∈ys,y.length=size)∧w.ownsRow w0.heap.size T size v xs.length ys.flatten∧∀ (i:Nat) (y:List Value) (a:α),ys[i]?=some y→xs[i]?=some a→R (fun k=>w0.heap.size≤k∧k < w.heap.size∧v.ownBlock ≠ some k) w y a
theorem OutAt.other {α:Type} {T:TypeId} {size:Nat} {R:Rep α} (hR:R.Ok) {w0 w w':World} {v:Value} {xs:List α} {p:Nat} (h:OutAt T size R w0 w v xs) (hg:w.grownBy w' (some p)) (hp:p < w0.heap.size):OutAt T size R w0 w' v xs:=by
  obtain ⟨ys,h1,h2,h3,h4⟩:=h;refine ⟨ys,h1,h2,q5k h3 hg (fun g hg' e=>?_),fun i y a hy ha=>hR.mono (hR.grown (h4 i y a hy ha) hg fun q hq k=>?_) fun k hk=>⟨hk.1,Nat.lt_of_lt_of_le hk.2.1 hg.size,hk.2.2⟩⟩
  · have:=(h3.lt g hg').1;cases e
    omega
  · cases hq
    omega
theorem OutAt.ext {α:Type} {T:TypeId} {size:Nat} {R:Rep α} (hR:R.Ok) {w0 w w':World} {v:Value} {xs:List α} (h:OutAt T size R w0 w v xs) (E:Ext w w'):OutAt T size R w0 w' v xs:=by
  obtain ⟨ys,h1,h2,h3,h4⟩:=h;exact ⟨ys,h1,h2,q1p h3 E,fun i y a hy ha=>hR.mono (hR.ext (h4 i y a hy ha) E) fun k hk=>⟨hk.1,Nat.lt_of_lt_of_le hk.2.1 E.size,hk.2.2⟩⟩
theorem OutAt.app {α:Type} {T:TypeId} {size:Nat} {R:Rep α} (hR:R.Ok) {w0 w1 w w':World} {v v':Value} {xs:List α} {a:α} {y:List Value} {ys:List (List Value)} (h1:ys.length=xs.length) (h2:∀ y∈ys,y.length=size) (h3:w.ownsRow w0.heap.size T size v xs.length ys.flatten)
    (h4:∀ (i:Nat) (y:List Value) (a:α),ys[i]?=some y→xs[i]?=some a→R (fun k=>w0.heap.size≤k∧k < w.heap.size∧v.ownBlock ≠ some k) w y a) (hy:R (fun k=>w1.heap.size≤k∧k < w.heap.size) w y a) (hyl:y.length=size)
    (h0:w0.heap.size≤w1.heap.size) (hv1:∀ q,v.ownBlock=some q→q < w1.heap.size)
    (ho:w'.ownsRow w0.heap.size T size v' (xs.length+1) (ys.flatten++y)) (hg:w.grownBy w' v.ownBlock) (hb:v'.ownBlock=v.ownBlock∨v'.ownBlock=some w.heap.size):OutAt T size R w0 w' v' (xs++[a]):=by
  have hlt:=h3.lt;have hs:=hg.size;refine ⟨ys++[y],by simp [h1],fun u hu=>?_,?_,fun i u b hu hb'=>?_⟩
  · rcases List.mem_append.1 hu with hu | hu
    · exact h2 u hu
    · rw [List.mem_singleton.1 hu];exact hyl
  · rw [List.flatten_append,List.length_append];simpa using ho
  · rcases Nat.lt_trichotomy i xs.length with hi | hi | hi
    · rw [List.getElem?_append_left (by omega)] at hu hb';refine hR.mono (hR.grown (h4 i u b hu hb') hg fun q hq k=>k.2.2 hq) fun k hk=>⟨hk.1,by omega,fun e=>?_⟩;rcases hb with hb | hb
      · rw [hb] at e;exact hk.2.2 e
      · rw [hb] at e;cases e;omega
    · subst hi;rw [List.getElem?_append_right (by omega),h1,Nat.sub_self] at hu;rw [List.getElem?_append_right (by omega),Nat.sub_self] at hb';cases hu
      cases hb'
      refine hR.mono (hR.grown hy hg fun q hq k=>?_) fun k hk=>⟨by omega,by omega,fun e=>?_⟩
      · have:=hv1 q hq;omega
      · rcases hb with hb | hb
        · rw [hb] at e;have:=hv1 k e;omega
        · rw [hb] at e;cases e;omega
    · rw [List.getElem?_append_right (by omega),List.getElem?_eq_none (by simp;omega)] at hb';cases hb'
theorem OutAt.slR {α:Type} {T:TypeId} {size:Nat} {R:Rep α} (hR:R.Ok) {w0 w:World} {v:Value} {xs:List α} (h:OutAt T size R w0 w v xs):slR size R (fun k=>w0.heap.size≤k∧k < w.heap.size) w [v] xs:=by
  obtain ⟨ys,h1,h2,h3,h4⟩:=h;exact ⟨v,rfl,ys,h1,h2,RowN.of_own h3,fun i y a hy ha=>hR.mono (h4 i y a hy ha) fun k hk=>⟨hk.1,hk.2.1⟩⟩
theorem OutAt.cell1 {α:Type} {T:TypeId} {size:Nat} {R:Rep α} {w0 w:World} {v:Value} {xs:List α} (h:OutAt T size R w0 w v xs):v.oneCell'=true:=by
  obtain ⟨ys,h1,h2,h3,h4⟩:=h;exact q2a (Row.of_own h3)
set_option maxRecDepth 100000 in
set_option maxHeartbeats 1000000 in
theorem delB {α:Type} {R:Rep α} (hR:R.Ok) (hz:∀ {N:Nat→Prop} {w:World} {y:List Value} {a:α},R N w y a→y.length=1) (id:FuncId) [TFun Tryz.prog id] (first cap:Array Value) (N:Nat→Prop) (p:Nat) (S:Ce.Ps α) (l:List Nat) (w:World)
    (hf:DecF id first cap p N S R hdV) (he:DecAt N p w l) :
    Calls Tryz.prog 68 #[.pointer (some ⟨p,0,none⟩),.func (.func id) first cap] w (DecR (Ce.els S) (slR 1 R) hdV N p l w):=by
  refine q0l Tryz.func68 rfl Tryz.ntmps68 rfl ?_;have ct:=dint N p l w he;have hb:∀ x,Ce.num 4 l=x→Ce.els S l=x.bind (Ce.rep S):=fun x h=>by rw [← h];rfl
  have hpl:=he.lt;(refine q0b<|q0a<|a_S rfl<|q0c<|tn<|q0b<|q0a<|a_S rfl<|q0c<|tn<|q0b<|q0b<|q0a<|m_P rfl ?_);cases hS:Ce.num 4 l with
  | err x =>
    rw [hS] at ct;refine q8l ct rfl ?_;rintro e w1 ⟨hg1,rfl⟩;exact .inr ⟨_,rfl,rfl,DecR.err hg1 (hb _ hS)⟩
  | got m r =>
    rw [hS] at ct;refine L_fn ct rfl ?_;rintro e w1 ⟨hg1,rfl,hm,e1⟩;refine ⟨_,rfl,?_⟩;have hS2:Ce.els S l=Ce.rep S m r:=hb _ hS;clear hS hb ct;(refine m_I rfl<|q0c<|tn<|q0j ?_);refine q1k (fun q f w'=>∃ i xs v l',q=m - i∧i≤m∧f 1=.func (.func id) first cap∧f 5=v∧f 7=.int .i64 (m:Nat)∧f 8=.int .i64 (i:Nat)∧xs.length=i∧OutAt 5 1 R w w' v xs∧w.grownBy w' (some p)∧DecAt N p w' l'∧Ce.els S l=Ce.Res.app xs (Ce.rep S (m - i) l')) m ?_ ?_
    · refine ⟨0,[],.slice none 0 0,r,rfl,by omega,rfl,rfl,rfl,rfl,rfl,⟨[],rfl,(fun _ h=>by cases h),⟨rfl,.inl ⟨rfl,rfl⟩⟩,(fun _ _ _ h=>by cases h)⟩,hg1,e1,?_⟩;rw [Ce.Res.app_nil];exact hS2
    · rintro q f w2 ⟨i,xs,v,l',rfl,hi,f1,f5,f7,f8,hxs,ho,hg2,e2,hdec⟩;rw [fold f1,fold f5,fold f7,fold f8];have hv:=ho.cell1;(refine q0b<|q0a<|Ls (q1w rfl rfl)<|q0c<|tn<|q0b ?_);refine q1d rfl (fun h=>?_) (fun h=>?_)
      · have hi':i < m:=(by omega);have ct:=hf w2 l' e2;(refine q0o<|tn<|q0b<|q0j<|q0a<|Ls (q0d (v:=v) rfl)<|Ls (q0d (v:=.func _ _ _) rfl) ?_);rw [show m - i=(m - (i+1))+1 by omega] at hdec;cases hS3:S l' with
        | err x =>
          refine z1g (vl:=[]) rfl ct rfl ?_;rintro e w3 ⟨hg3,h3⟩;rw [hS3] at h3;obtain rfl:e=_:=h3;refine .inr ⟨_,rfl,rfl,DecR.err (q0f hg2 hg3 fun q h=>.inl h) ?_⟩;rw [hdec,Ce.rep_err hS3];rfl
        | got a r' =>
          refine q6k (vl:=[]) rfl ct rfl ?_;rintro e w3 ⟨hg3,h3⟩;rw [hS3] at h3;obtain ⟨y,rfl,hy,e3⟩:=h3;refine ⟨_,rfl,?_⟩;rw [Ce.rep_got hS3,Ce.Res.app_app] at hdec;have hyl:=hz hy;have hg23:=q0f hg2 hg3 fun q h=>.inl h;have hvb:∀ q,v.ownBlock=some q→q < w2.heap.size:=by
            obtain ⟨ys,_,_,h3,_⟩:=ho;exact fun q hq=>(h3.lt q hq).2
          have ho3:=ho.other hR hg3 hpl;obtain ⟨u,rfl⟩:∃ u,y=[u]:=by
            match y,hyl with
            | [u],_=>exact ⟨u,rfl⟩
          have hu1:=hR.one hy u (List.mem_singleton.2 rfl);refine q3z (v:=u) rfl hu1 ?_;intro u4 w4 r4 E4 hs4 _;obtain ⟨ys,y1,y2,own4,yR⟩:=(ho3.ext hR E4).h;have e4:=e3.ext E4;have hg4:=q0f hg23 (E4.row (some p)) fun q h=>.inl h;have hs4:=E4.size;have hs3:=hg3.size;have hs2:=hg2.size;have hy4:R (fun k=>w2.heap.size≤k∧k < w4.heap.size) w4 [u] a:=hR.mono (hR.ext hy E4) fun k hk=>⟨hk.1,by omega⟩;refine q1c rfl rfl own4 r4 (fun q hq=>by rw [List.mem_singleton.1 hq];exact hu1) (by omega) (by omega) (by omega) ?_;intro v5 w5 o5 hg5 hb5;have ho5:=OutAt.app (a:=a) hR y1 y2 own4 yR hy4 hyl hs2 hvb o5 hg5 hb5;have hv5:=ho5.cell1;have hg05:=q0f hg4 hg5 fun q hq=>.inr ((own4.lt q hq).1);have hpv:v.ownBlock ≠ some p:=fun e=>(by have:=(own4.lt p e).1;omega);have e5:DecAt N p w5 r':=e4.grown hg5 hpv fun q hq k=>(by have:=(own4.lt q hq).1;have:=(he.n q k).2;omega);(refine Ls (q0e (v:=v5) rfl)<|q0c<|bn<|tn<|q0a<|Ls (q1e rfl rfl (by omega))<|m_I rfl<|q0c<|tn ?_);exact ⟨m - (i+1),by omega,i+1,xs++[a],v5,r',rfl,by omega,rfl,rfl,rfl,rfl,by rw [List.length_append,hxs];rfl,ho5,hg05,e5,hdec⟩
      · obtain rfl:i=m:=(by omega);(refine q1b<|te<|te<|bx<|tn<|q0b<|q0a<|Ls (q0d (v:=v) rfl)<|Ls (q0e (v:=v) rfl)<|q0c<|tn<|q0r ?_);refine q0i rfl rfl (v:=v) rfl ?_;rw [Nat.sub_self] at hdec;refine DecR.got hg2 (hdec.trans (show _=Ce.Res.got xs l' from ?_)) [v] (ho.slR hR) e2;show Ce.Res.got (xs++[]) l'=_;rw [List.append_nil]
set_option maxRecDepth 100000 in
set_option maxHeartbeats 1000000 in
theorem delI {α:Type} {R:Rep α} (hR:R.Ok) (hz:∀ {N:Nat→Prop} {w:World} {y:List Value} {a:α},R N w y a→y.length=1) (id:FuncId) [TFun Tryz.prog id] (first cap:Array Value) (N:Nat→Prop) (p:Nat) (S:Ce.Ps α) (l:List Nat) (w:World)
    (hf:DecF id first cap p N S R hdV) (he:DecAt N p w l) :
    Calls Tryz.prog 72 #[.pointer (some ⟨p,0,none⟩),.func (.func id) first cap] w (DecR (Ce.els S) (slR 1 R) hdV N p l w):=by
  refine q0l Tryz.func72 rfl Tryz.ntmps72 rfl ?_;have ct:=dint N p l w he;have hb:∀ x,Ce.num 4 l=x→Ce.els S l=x.bind (Ce.rep S):=fun x h=>by rw [← h];rfl
  have hpl:=he.lt;(refine q0b<|q0a<|a_S rfl<|q0c<|tn<|q0b<|q0a<|a_S rfl<|q0c<|tn<|q0b<|q0b<|q0a<|m_P rfl ?_);cases hS:Ce.num 4 l with
  | err x =>
    rw [hS] at ct;refine q8l ct rfl ?_;rintro e w1 ⟨hg1,rfl⟩;exact .inr ⟨_,rfl,rfl,DecR.err hg1 (hb _ hS)⟩
  | got m r =>
    rw [hS] at ct;refine L_fn ct rfl ?_;rintro e w1 ⟨hg1,rfl,hm,e1⟩;refine ⟨_,rfl,?_⟩;have hS2:Ce.els S l=Ce.rep S m r:=hb _ hS;clear hS hb ct;(refine m_I rfl<|q0c<|tn<|q0j ?_);refine q1k (fun q f w'=>∃ i xs v l',q=m - i∧i≤m∧f 1=.func (.func id) first cap∧f 5=v∧f 7=.int .i64 (m:Nat)∧f 8=.int .i64 (i:Nat)∧xs.length=i∧OutAt 2 1 R w w' v xs∧w.grownBy w' (some p)∧DecAt N p w' l'∧Ce.els S l=Ce.Res.app xs (Ce.rep S (m - i) l')) m ?_ ?_
    · refine ⟨0,[],.slice none 0 0,r,rfl,by omega,rfl,rfl,rfl,rfl,rfl,⟨[],rfl,(fun _ h=>by cases h),⟨rfl,.inl ⟨rfl,rfl⟩⟩,(fun _ _ _ h=>by cases h)⟩,hg1,e1,?_⟩;rw [Ce.Res.app_nil];exact hS2
    · rintro q f w2 ⟨i,xs,v,l',rfl,hi,f1,f5,f7,f8,hxs,ho,hg2,e2,hdec⟩;rw [fold f1,fold f5,fold f7,fold f8];have hv:=ho.cell1;(refine q0b<|q0a<|Ls (q1w rfl rfl)<|q0c<|tn<|q0b ?_);refine q1d rfl (fun h=>?_) (fun h=>?_)
      · have hi':i < m:=(by omega);have ct:=hf w2 l' e2;(refine q0o<|tn<|q0b<|q0j<|q0a<|Ls (q0d (v:=v) rfl)<|Ls (q0d (v:=.func _ _ _) rfl) ?_);rw [show m - i=(m - (i+1))+1 by omega] at hdec;cases hS3:S l' with
        | err x =>
          refine z1g (vl:=[]) rfl ct rfl ?_;rintro e w3 ⟨hg3,h3⟩;rw [hS3] at h3;obtain rfl:e=_:=h3;refine .inr ⟨_,rfl,rfl,DecR.err (q0f hg2 hg3 fun q h=>.inl h) ?_⟩;rw [hdec,Ce.rep_err hS3];rfl
        | got a r' =>
          refine q6k (vl:=[]) rfl ct rfl ?_;rintro e w3 ⟨hg3,h3⟩;rw [hS3] at h3;obtain ⟨y,rfl,hy,e3⟩:=h3;refine ⟨_,rfl,?_⟩;rw [Ce.rep_got hS3,Ce.Res.app_app] at hdec;have hyl:=hz hy;have hg23:=q0f hg2 hg3 fun q h=>.inl h;have hvb:∀ q,v.ownBlock=some q→q < w2.heap.size:=by
            obtain ⟨ys,_,_,h3,_⟩:=ho;exact fun q hq=>(h3.lt q hq).2
          have ho3:=ho.other hR hg3 hpl;obtain ⟨u,rfl⟩:∃ u,y=[u]:=by
            match y,hyl with
            | [u],_=>exact ⟨u,rfl⟩
          have hu1:=hR.one hy u (List.mem_singleton.2 rfl);refine q3z (v:=u) rfl hu1 ?_;intro u4 w4 r4 E4 hs4 _;obtain ⟨ys,y1,y2,own4,yR⟩:=(ho3.ext hR E4).h;have e4:=e3.ext E4;have hg4:=q0f hg23 (E4.row (some p)) fun q h=>.inl h;have hs4:=E4.size;have hs3:=hg3.size;have hs2:=hg2.size;have hy4:R (fun k=>w2.heap.size≤k∧k < w4.heap.size) w4 [u] a:=hR.mono (hR.ext hy E4) fun k hk=>⟨hk.1,by omega⟩;refine q1c rfl rfl own4 r4 (fun q hq=>by rw [List.mem_singleton.1 hq];exact hu1) (by omega) (by omega) (by omega) ?_;intro v5 w5 o5 hg5 hb5;have ho5:=OutAt.app (a:=a) hR y1 y2 own4 yR hy4 hyl hs2 hvb o5 hg5 hb5;have hv5:=ho5.cell1;have hg05:=q0f hg4 hg5 fun q hq=>.inr ((own4.lt q hq).1);have hpv:v.ownBlock ≠ some p:=fun e=>(by have:=(own4.lt p e).1;omega);have e5:DecAt N p w5 r':=e4.grown hg5 hpv fun q hq k=>(by have:=(own4.lt q hq).1;have:=(he.n q k).2;omega);(refine Ls (q0e (v:=v5) rfl)<|q0c<|bn<|tn<|q0a<|Ls (q1e rfl rfl (by omega))<|m_I rfl<|q0c<|tn ?_);exact ⟨m - (i+1),by omega,i+1,xs++[a],v5,r',rfl,by omega,rfl,rfl,rfl,rfl,by rw [List.length_append,hxs];rfl,ho5,hg05,e5,hdec⟩
      · obtain rfl:i=m:=(by omega);(refine q1b<|te<|te<|bx<|tn<|q0b<|q0a<|Ls (q0d (v:=v) rfl)<|Ls (q0e (v:=v) rfl)<|q0c<|tn<|q0r ?_);refine q0i rfl rfl (v:=v) rfl ?_;rw [Nat.sub_self] at hdec;refine DecR.got hg2 (hdec.trans (show _=Ce.Res.got xs l' from ?_)) [v] (ho.slR hR) e2;show Ce.Res.got (xs++[]) l'=_;rw [List.append_nil]
set_option maxRecDepth 100000 in
set_option maxHeartbeats 1000000 in
theorem delR {α:Type} {R:Rep α} (hR:R.Ok) (hz:∀ {N:Nat→Prop} {w:World} {y:List Value} {a:α},R N w y a→y.length=1) (id:FuncId) [TFun Tryz.prog id] (first cap:Array Value) (N:Nat→Prop) (p:Nat) (S:Ce.Ps α) (l:List Nat) (w:World)
    (hf:DecF id first cap p N S R hdV) (he:DecAt N p w l) :
    Calls Tryz.prog 74 #[.pointer (some ⟨p,0,none⟩),.func (.func id) first cap] w (DecR (Ce.els S) (slR 1 R) hdV N p l w):=by
  refine q0l Tryz.func74 rfl Tryz.ntmps74 rfl ?_;have ct:=dint N p l w he;have hb:∀ x,Ce.num 4 l=x→Ce.els S l=x.bind (Ce.rep S):=fun x h=>by rw [← h];rfl
  have hpl:=he.lt;(refine q0b<|q0a<|a_S rfl<|q0c<|tn<|q0b<|q0a<|a_S rfl<|q0c<|tn<|q0b<|q0b<|q0a<|m_P rfl ?_);cases hS:Ce.num 4 l with
  | err x =>
    rw [hS] at ct;refine q8l ct rfl ?_;rintro e w1 ⟨hg1,rfl⟩;exact .inr ⟨_,rfl,rfl,DecR.err hg1 (hb _ hS)⟩
  | got m r =>
    rw [hS] at ct;refine L_fn ct rfl ?_;rintro e w1 ⟨hg1,rfl,hm,e1⟩;refine ⟨_,rfl,?_⟩;have hS2:Ce.els S l=Ce.rep S m r:=hb _ hS;clear hS hb ct;(refine m_I rfl<|q0c<|tn<|q0j ?_);refine q1k (fun q f w'=>∃ i xs v l',q=m - i∧i≤m∧f 1=.func (.func id) first cap∧f 5=v∧f 7=.int .i64 (m:Nat)∧f 8=.int .i64 (i:Nat)∧xs.length=i∧OutAt 35 1 R w w' v xs∧w.grownBy w' (some p)∧DecAt N p w' l'∧Ce.els S l=Ce.Res.app xs (Ce.rep S (m - i) l')) m ?_ ?_
    · refine ⟨0,[],.slice none 0 0,r,rfl,by omega,rfl,rfl,rfl,rfl,rfl,⟨[],rfl,(fun _ h=>by cases h),⟨rfl,.inl ⟨rfl,rfl⟩⟩,(fun _ _ _ h=>by cases h)⟩,hg1,e1,?_⟩;rw [Ce.Res.app_nil];exact hS2
    · rintro q f w2 ⟨i,xs,v,l',rfl,hi,f1,f5,f7,f8,hxs,ho,hg2,e2,hdec⟩;rw [fold f1,fold f5,fold f7,fold f8];have hv:=ho.cell1;(refine q0b<|q0a<|Ls (q1w rfl rfl)<|q0c<|tn<|q0b ?_);refine q1d rfl (fun h=>?_) (fun h=>?_)
      · have hi':i < m:=(by omega);have ct:=hf w2 l' e2;(refine q0o<|tn<|q0b<|q0j<|q0a<|Ls (q0d (v:=v) rfl)<|Ls (q0d (v:=.func _ _ _) rfl) ?_);rw [show m - i=(m - (i+1))+1 by omega] at hdec;cases hS3:S l' with
        | err x =>
          refine z1g (vl:=[]) rfl ct rfl ?_;rintro e w3 ⟨hg3,h3⟩;rw [hS3] at h3;obtain rfl:e=_:=h3;refine .inr ⟨_,rfl,rfl,DecR.err (q0f hg2 hg3 fun q h=>.inl h) ?_⟩;rw [hdec,Ce.rep_err hS3];rfl
        | got a r' =>
          refine q6k (vl:=[]) rfl ct rfl ?_;rintro e w3 ⟨hg3,h3⟩;rw [hS3] at h3;obtain ⟨y,rfl,hy,e3⟩:=h3;refine ⟨_,rfl,?_⟩;rw [Ce.rep_got hS3,Ce.Res.app_app] at hdec;have hyl:=hz hy;have hg23:=q0f hg2 hg3 fun q h=>.inl h;have hvb:∀ q,v.ownBlock=some q→q < w2.heap.size:=by
            obtain ⟨ys,_,_,h3,_⟩:=ho;exact fun q hq=>(h3.lt q hq).2
          have ho3:=ho.other hR hg3 hpl;obtain ⟨u,rfl⟩:∃ u,y=[u]:=by
            match y,hyl with
            | [u],_=>exact ⟨u,rfl⟩
          have hu1:=hR.one hy u (List.mem_singleton.2 rfl);refine q3z (v:=u) rfl hu1 ?_;intro u4 w4 r4 E4 hs4 _;obtain ⟨ys,y1,y2,own4,yR⟩:=(ho3.ext hR E4).h;have e4:=e3.ext E4;have hg4:=q0f hg23 (E4.row (some p)) fun q h=>.inl h;have hs4:=E4.size;have hs3:=hg3.size;have hs2:=hg2.size;have hy4:R (fun k=>w2.heap.size≤k∧k < w4.heap.size) w4 [u] a:=hR.mono (hR.ext hy E4) fun k hk=>⟨hk.1,by omega⟩;refine q1c rfl rfl own4 r4 (fun q hq=>by rw [List.mem_singleton.1 hq];exact hu1) (by omega) (by omega) (by omega) ?_;intro v5 w5 o5 hg5 hb5;have ho5:=OutAt.app (a:=a) hR y1 y2 own4 yR hy4 hyl hs2 hvb o5 hg5 hb5;have hv5:=ho5.cell1;have hg05:=q0f hg4 hg5 fun q hq=>.inr ((own4.lt q hq).1);have hpv:v.ownBlock ≠ some p:=fun e=>(by have:=(own4.lt p e).1;omega);have e5:DecAt N p w5 r':=e4.grown hg5 hpv fun q hq k=>(by have:=(own4.lt q hq).1;have:=(he.n q k).2;omega);(refine Ls (q0e (v:=v5) rfl)<|q0c<|bn<|tn<|q0a<|Ls (q1e rfl rfl (by omega))<|m_I rfl<|q0c<|tn ?_);exact ⟨m - (i+1),by omega,i+1,xs++[a],v5,r',rfl,by omega,rfl,rfl,rfl,rfl,by rw [List.length_append,hxs];rfl,ho5,hg05,e5,hdec⟩
      · obtain rfl:i=m:=(by omega);(refine q1b<|te<|te<|bx<|tn<|q0b<|q0a<|Ls (q0d (v:=v) rfl)<|Ls (q0e (v:=v) rfl)<|q0c<|tn<|q0r ?_);refine q0i rfl rfl (v:=v) rfl ?_;rw [Nat.sub_self] at hdec;refine DecR.got hg2 (hdec.trans (show _=Ce.Res.got xs l' from ?_)) [v] (ho.slR hR) e2;show Ce.Res.got (xs++[]) l'=_;rw [List.append_nil]
set_option maxRecDepth 100000 in
set_option maxHeartbeats 1000000 in
theorem delC {α:Type} {R:Rep α} (hR:R.Ok) (hz:∀ {N:Nat→Prop} {w:World} {y:List Value} {a:α},R N w y a→y.length=1) (id:FuncId) [TFun Tryz.prog id] (first cap:Array Value) (N:Nat→Prop) (p:Nat) (S:Ce.Ps α) (l:List Nat) (w:World)
    (hf:DecF id first cap p N S R hdV) (he:DecAt N p w l) :
    Calls Tryz.prog 80 #[.pointer (some ⟨p,0,none⟩),.func (.func id) first cap] w (DecR (Ce.els S) (slR 1 R) hdV N p l w):=by
  refine q0l Tryz.func80 rfl Tryz.ntmps80 rfl ?_;have ct:=dint N p l w he;have hb:∀ x,Ce.num 4 l=x→Ce.els S l=x.bind (Ce.rep S):=fun x h=>by rw [← h];rfl
  have hpl:=he.lt;(refine q0b<|q0a<|a_S rfl<|q0c<|tn<|q0b<|q0a<|a_S rfl<|q0c<|tn<|q0b<|q0b<|q0a<|m_P rfl ?_);cases hS:Ce.num 4 l with
  | err x =>
    rw [hS] at ct;refine q8l ct rfl ?_;rintro e w1 ⟨hg1,rfl⟩;exact .inr ⟨_,rfl,rfl,DecR.err hg1 (hb _ hS)⟩
  | got m r =>
    rw [hS] at ct;refine L_fn ct rfl ?_;rintro e w1 ⟨hg1,rfl,hm,e1⟩;refine ⟨_,rfl,?_⟩;have hS2:Ce.els S l=Ce.rep S m r:=hb _ hS;clear hS hb ct;(refine m_I rfl<|q0c<|tn<|q0j ?_);refine q1k (fun q f w'=>∃ i xs v l',q=m - i∧i≤m∧f 1=.func (.func id) first cap∧f 5=v∧f 7=.int .i64 (m:Nat)∧f 8=.int .i64 (i:Nat)∧xs.length=i∧OutAt 69 1 R w w' v xs∧w.grownBy w' (some p)∧DecAt N p w' l'∧Ce.els S l=Ce.Res.app xs (Ce.rep S (m - i) l')) m ?_ ?_
    · refine ⟨0,[],.slice none 0 0,r,rfl,by omega,rfl,rfl,rfl,rfl,rfl,⟨[],rfl,(fun _ h=>by cases h),⟨rfl,.inl ⟨rfl,rfl⟩⟩,(fun _ _ _ h=>by cases h)⟩,hg1,e1,?_⟩;rw [Ce.Res.app_nil];exact hS2
    · rintro q f w2 ⟨i,xs,v,l',rfl,hi,f1,f5,f7,f8,hxs,ho,hg2,e2,hdec⟩;rw [fold f1,fold f5,fold f7,fold f8];have hv:=ho.cell1;(refine q0b<|q0a<|Ls (q1w rfl rfl)<|q0c<|tn<|q0b ?_);refine q1d rfl (fun h=>?_) (fun h=>?_)
      · have hi':i < m:=(by omega);have ct:=hf w2 l' e2;(refine q0o<|tn<|q0b<|q0j<|q0a<|Ls (q0d (v:=v) rfl)<|Ls (q0d (v:=.func _ _ _) rfl) ?_);rw [show m - i=(m - (i+1))+1 by omega] at hdec;cases hS3:S l' with
        | err x =>
          refine z1g (vl:=[]) rfl ct rfl ?_;rintro e w3 ⟨hg3,h3⟩;rw [hS3] at h3;obtain rfl:e=_:=h3;refine .inr ⟨_,rfl,rfl,DecR.err (q0f hg2 hg3 fun q h=>.inl h) ?_⟩;rw [hdec,Ce.rep_err hS3];rfl
        | got a r' =>
          refine q6k (vl:=[]) rfl ct rfl ?_;rintro e w3 ⟨hg3,h3⟩;rw [hS3] at h3;obtain ⟨y,rfl,hy,e3⟩:=h3;refine ⟨_,rfl,?_⟩;rw [Ce.rep_got hS3,Ce.Res.app_app] at hdec;have hyl:=hz hy;have hg23:=q0f hg2 hg3 fun q h=>.inl h;have hvb:∀ q,v.ownBlock=some q→q < w2.heap.size:=by
            obtain ⟨ys,_,_,h3,_⟩:=ho;exact fun q hq=>(h3.lt q hq).2
          have ho3:=ho.other hR hg3 hpl;obtain ⟨u,rfl⟩:∃ u,y=[u]:=by
            match y,hyl with
            | [u],_=>exact ⟨u,rfl⟩
          have hu1:=hR.one hy u (List.mem_singleton.2 rfl);refine q3z (v:=u) rfl hu1 ?_;intro u4 w4 r4 E4 hs4 _;obtain ⟨ys,y1,y2,own4,yR⟩:=(ho3.ext hR E4).h;have e4:=e3.ext E4;have hg4:=q0f hg23 (E4.row (some p)) fun q h=>.inl h;have hs4:=E4.size;have hs3:=hg3.size;have hs2:=hg2.size;have hy4:R (fun k=>w2.heap.size≤k∧k < w4.heap.size) w4 [u] a:=hR.mono (hR.ext hy E4) fun k hk=>⟨hk.1,by omega⟩;refine q1c rfl rfl own4 r4 (fun q hq=>by rw [List.mem_singleton.1 hq];exact hu1) (by omega) (by omega) (by omega) ?_;intro v5 w5 o5 hg5 hb5;have ho5:=OutAt.app (a:=a) hR y1 y2 own4 yR hy4 hyl hs2 hvb o5 hg5 hb5;have hv5:=ho5.cell1;have hg05:=q0f hg4 hg5 fun q hq=>.inr ((own4.lt q hq).1);have hpv:v.ownBlock ≠ some p:=fun e=>(by have:=(own4.lt p e).1;omega);have e5:DecAt N p w5 r':=e4.grown hg5 hpv fun q hq k=>(by have:=(own4.lt q hq).1;have:=(he.n q k).2;omega);(refine Ls (q0e (v:=v5) rfl)<|q0c<|bn<|tn<|q0a<|Ls (q1e rfl rfl (by omega))<|m_I rfl<|q0c<|tn ?_);exact ⟨m - (i+1),by omega,i+1,xs++[a],v5,r',rfl,by omega,rfl,rfl,rfl,rfl,by rw [List.length_append,hxs];rfl,ho5,hg05,e5,hdec⟩
      · obtain rfl:i=m:=(by omega);(refine q1b<|te<|te<|bx<|tn<|q0b<|q0a<|Ls (q0d (v:=v) rfl)<|Ls (q0e (v:=v) rfl)<|q0c<|tn<|q0r ?_);refine q0i rfl rfl (v:=v) rfl ?_;rw [Nat.sub_self] at hdec;refine DecR.got hg2 (hdec.trans (show _=Ce.Res.got xs l' from ?_)) [v] (ho.slR hR) e2;show Ce.Res.got (xs++[]) l'=_;rw [List.append_nil]
set_option maxRecDepth 100000 in
set_option maxHeartbeats 1000000 in
theorem delW {α:Type} {R:Rep α} (hR:R.Ok) (hz:∀ {N:Nat→Prop} {w:World} {y:List Value} {a:α},R N w y a→y.length=1) (id:FuncId) [TFun Tryz.prog id] (first cap:Array Value) (N:Nat→Prop) (p:Nat) (S:Ce.Ps α) (l:List Nat) (w:World)
    (hf:DecF id first cap p N S R hdV) (he:DecAt N p w l) :
    Calls Tryz.prog 116 #[.pointer (some ⟨p,0,none⟩),.func (.func id) first cap] w (DecR (Ce.els S) (slR 1 R) hdV N p l w):=by
  refine q0l Tryz.func116 rfl Tryz.ntmps116 rfl ?_;have ct:=dint N p l w he;have hb:∀ x,Ce.num 4 l=x→Ce.els S l=x.bind (Ce.rep S):=fun x h=>by rw [← h];rfl
  have hpl:=he.lt;(refine q0b<|q0a<|a_S rfl<|q0c<|tn<|q0b<|q0a<|a_S rfl<|q0c<|tn<|q0b<|q0b<|q0a<|m_P rfl ?_);cases hS:Ce.num 4 l with
  | err x =>
    rw [hS] at ct;refine q8l ct rfl ?_;rintro e w1 ⟨hg1,rfl⟩;exact .inr ⟨_,rfl,rfl,DecR.err hg1 (hb _ hS)⟩
  | got m r =>
    rw [hS] at ct;refine L_fn ct rfl ?_;rintro e w1 ⟨hg1,rfl,hm,e1⟩;refine ⟨_,rfl,?_⟩;have hS2:Ce.els S l=Ce.rep S m r:=hb _ hS;clear hS hb ct;(refine m_I rfl<|q0c<|tn<|q0j ?_);refine q1k (fun q f w'=>∃ i xs v l',q=m - i∧i≤m∧f 1=.func (.func id) first cap∧f 5=v∧f 7=.int .i64 (m:Nat)∧f 8=.int .i64 (i:Nat)∧xs.length=i∧OutAt 32 1 R w w' v xs∧w.grownBy w' (some p)∧DecAt N p w' l'∧Ce.els S l=Ce.Res.app xs (Ce.rep S (m - i) l')) m ?_ ?_
    · refine ⟨0,[],.slice none 0 0,r,rfl,by omega,rfl,rfl,rfl,rfl,rfl,⟨[],rfl,(fun _ h=>by cases h),⟨rfl,.inl ⟨rfl,rfl⟩⟩,(fun _ _ _ h=>by cases h)⟩,hg1,e1,?_⟩;rw [Ce.Res.app_nil];exact hS2
    · rintro q f w2 ⟨i,xs,v,l',rfl,hi,f1,f5,f7,f8,hxs,ho,hg2,e2,hdec⟩;rw [fold f1,fold f5,fold f7,fold f8];have hv:=ho.cell1;(refine q0b<|q0a<|Ls (q1w rfl rfl)<|q0c<|tn<|q0b ?_);refine q1d rfl (fun h=>?_) (fun h=>?_)
      · have hi':i < m:=(by omega);have ct:=hf w2 l' e2;(refine q0o<|tn<|q0b<|q0j<|q0a<|Ls (q0d (v:=v) rfl)<|Ls (q0d (v:=.func _ _ _) rfl) ?_);rw [show m - i=(m - (i+1))+1 by omega] at hdec;cases hS3:S l' with
        | err x =>
          refine z1g (vl:=[]) rfl ct rfl ?_;rintro e w3 ⟨hg3,h3⟩;rw [hS3] at h3;obtain rfl:e=_:=h3;refine .inr ⟨_,rfl,rfl,DecR.err (q0f hg2 hg3 fun q h=>.inl h) ?_⟩;rw [hdec,Ce.rep_err hS3];rfl
        | got a r' =>
          refine q6k (vl:=[]) rfl ct rfl ?_;rintro e w3 ⟨hg3,h3⟩;rw [hS3] at h3;obtain ⟨y,rfl,hy,e3⟩:=h3;refine ⟨_,rfl,?_⟩;rw [Ce.rep_got hS3,Ce.Res.app_app] at hdec;have hyl:=hz hy;have hg23:=q0f hg2 hg3 fun q h=>.inl h;have hvb:∀ q,v.ownBlock=some q→q < w2.heap.size:=by
            obtain ⟨ys,_,_,h3,_⟩:=ho;exact fun q hq=>(h3.lt q hq).2
          have ho3:=ho.other hR hg3 hpl;obtain ⟨u,rfl⟩:∃ u,y=[u]:=by
            match y,hyl with
            | [u],_=>exact ⟨u,rfl⟩
          have hu1:=hR.one hy u (List.mem_singleton.2 rfl);refine q3z (v:=u) rfl hu1 ?_;intro u4 w4 r4 E4 hs4 _;obtain ⟨ys,y1,y2,own4,yR⟩:=(ho3.ext hR E4).h;have e4:=e3.ext E4;have hg4:=q0f hg23 (E4.row (some p)) fun q h=>.inl h;have hs4:=E4.size;have hs3:=hg3.size;have hs2:=hg2.size;have hy4:R (fun k=>w2.heap.size≤k∧k < w4.heap.size) w4 [u] a:=hR.mono (hR.ext hy E4) fun k hk=>⟨hk.1,by omega⟩;refine q1c rfl rfl own4 r4 (fun q hq=>by rw [List.mem_singleton.1 hq];exact hu1) (by omega) (by omega) (by omega) ?_;intro v5 w5 o5 hg5 hb5;have ho5:=OutAt.app (a:=a) hR y1 y2 own4 yR hy4 hyl hs2 hvb o5 hg5 hb5;have hv5:=ho5.cell1;have hg05:=q0f hg4 hg5 fun q hq=>.inr ((own4.lt q hq).1);have hpv:v.ownBlock ≠ some p:=fun e=>(by have:=(own4.lt p e).1;omega);have e5:DecAt N p w5 r':=e4.grown hg5 hpv fun q hq k=>(by have:=(own4.lt q hq).1;have:=(he.n q k).2;omega);(refine Ls (q0e (v:=v5) rfl)<|q0c<|bn<|tn<|q0a<|Ls (q1e rfl rfl (by omega))<|m_I rfl<|q0c<|tn ?_);exact ⟨m - (i+1),by omega,i+1,xs++[a],v5,r',rfl,by omega,rfl,rfl,rfl,rfl,by rw [List.length_append,hxs];rfl,ho5,hg05,e5,hdec⟩
      · obtain rfl:i=m:=(by omega);(refine q1b<|te<|te<|bx<|tn<|q0b<|q0a<|Ls (q0d (v:=v) rfl)<|Ls (q0e (v:=v) rfl)<|q0c<|tn<|q0r ?_);refine q0i rfl rfl (v:=v) rfl ?_;rw [Nat.sub_self] at hdec;refine DecR.got hg2 (hdec.trans (show _=Ce.Res.got xs l' from ?_)) [v] (ho.slR hR) e2;show Ce.Res.got (xs++[]) l'=_;rw [List.append_nil]
set_option maxRecDepth 100000 in
set_option maxHeartbeats 1000000 in
theorem delE {α:Type} {R:Rep α} (hR:R.Ok) (hz:∀ {N:Nat→Prop} {w:World} {y:List Value} {a:α},R N w y a→y.length=2) (id:FuncId) [TFun Tryz.prog id] (first cap:Array Value) (N:Nat→Prop) (p:Nat) (S:Ce.Ps α) (l:List Nat) (w:World)
    (hf:DecF id first cap p N S R agV) (he:DecAt N p w l) :
    Calls Tryz.prog 79 #[.pointer (some ⟨p,0,none⟩),.func (.func id) first cap] w (DecR (Ce.els S) (slR 2 R) hdV N p l w):=by
  refine q0l Tryz.func79 rfl Tryz.ntmps79 rfl ?_;have ct:=dint N p l w he;have hb:∀ x,Ce.num 4 l=x→Ce.els S l=x.bind (Ce.rep S):=fun x h=>by rw [← h];rfl
  have hpl:=he.lt;(refine q0b<|q0a<|a_S rfl<|q0c<|tn<|q0b<|q0a<|a_S rfl<|q0c<|tn<|q0b<|q0b<|q0a<|m_P rfl ?_);cases hS:Ce.num 4 l with
  | err x =>
    rw [hS] at ct;refine q8l ct rfl ?_;rintro e w1 ⟨hg1,rfl⟩;exact .inr ⟨_,rfl,rfl,DecR.err hg1 (hb _ hS)⟩
  | got m r =>
    rw [hS] at ct;refine L_fn ct rfl ?_;rintro e w1 ⟨hg1,rfl,hm,e1⟩;refine ⟨_,rfl,?_⟩;have hS2:Ce.els S l=Ce.rep S m r:=hb _ hS;clear hS hb ct;(refine m_I rfl<|q0c<|tn<|q0j ?_);refine q1k (fun q f w'=>∃ i xs v l',q=m - i∧i≤m∧f 1=.func (.func id) first cap∧f 5=v∧f 7=.int .i64 (m:Nat)∧f 8=.int .i64 (i:Nat)∧xs.length=i∧OutAt 34 2 R w w' v xs∧w.grownBy w' (some p)∧DecAt N p w' l'∧Ce.els S l=Ce.Res.app xs (Ce.rep S (m - i) l')) m ?_ ?_
    · refine ⟨0,[],.slice none 0 0,r,rfl,by omega,rfl,rfl,rfl,rfl,rfl,⟨[],rfl,(fun _ h=>by cases h),⟨rfl,.inl ⟨rfl,rfl⟩⟩,(fun _ _ _ h=>by cases h)⟩,hg1,e1,?_⟩;rw [Ce.Res.app_nil];exact hS2
    · rintro q f w2 ⟨i,xs,v,l',rfl,hi,f1,f5,f7,f8,hxs,ho,hg2,e2,hdec⟩;rw [fold f1,fold f5,fold f7,fold f8];have hv:=ho.cell1;(refine q0b<|q0a<|Ls (q1w rfl rfl)<|q0c<|tn<|q0b ?_);refine q1d rfl (fun h=>?_) (fun h=>?_)
      · have hi':i < m:=(by omega);have ct:=hf w2 l' e2;(refine q0o<|tn<|q0b<|q0j<|q0a<|Ls (q0d (v:=v) rfl)<|Ls (q0d (v:=.func _ _ _) rfl) ?_);rw [show m - i=(m - (i+1))+1 by omega] at hdec;cases hS3:S l' with
        | err x =>
          refine z1g (vl:=[]) rfl ct rfl ?_;rintro e w3 ⟨hg3,h3⟩;rw [hS3] at h3;obtain rfl:e=_:=h3;refine .inr ⟨_,rfl,rfl,DecR.err (q0f hg2 hg3 fun q h=>.inl h) ?_⟩;rw [hdec,Ce.rep_err hS3];rfl
        | got a r' =>
          refine q6k (vl:=[]) rfl ct rfl ?_;rintro e w3 ⟨hg3,h3⟩;rw [hS3] at h3;obtain ⟨y,rfl,hy,e3⟩:=h3;refine ⟨_,rfl,?_⟩;rw [Ce.rep_got hS3,Ce.Res.app_app] at hdec;have hyl:=hz hy;have hg23:=q0f hg2 hg3 fun q h=>.inl h;have hvb:∀ q,v.ownBlock=some q→q < w2.heap.size:=by
            obtain ⟨ys,_,_,h3,_⟩:=ho;exact fun q hq=>(h3.lt q hq).2
          have ho3:=ho.other hR hg3 hpl;refine L_litA (l:=y) rfl ?_ ?_ ?_
          · exact hyl
          · decide
          intro u4 w4 r4 E4 hs4;obtain ⟨ys,y1,y2,own4,yR⟩:=(ho3.ext hR E4).h;have e4:=e3.ext E4;have hg4:=q0f hg23 (E4.row (some p)) fun q h=>.inl h;have hs4:=E4.size;have hs3:=hg3.size;have hs2:=hg2.size;have hy4:R (fun k=>w2.heap.size≤k∧k < w4.heap.size) w4 y a:=hR.mono (hR.ext hy E4) fun k hk=>⟨hk.1,by omega⟩;refine q1c rfl rfl own4 r4 (hR.one hy) (by omega) (by omega) (by omega) ?_;intro v5 w5 o5 hg5 hb5;have ho5:=OutAt.app (a:=a) hR y1 y2 own4 yR hy4 hyl hs2 hvb o5 hg5 hb5;have hv5:=ho5.cell1;have hg05:=q0f hg4 hg5 fun q hq=>.inr ((own4.lt q hq).1);have hpv:v.ownBlock ≠ some p:=fun e=>(by have:=(own4.lt p e).1;omega);have e5:DecAt N p w5 r':=e4.grown hg5 hpv fun q hq k=>(by have:=(own4.lt q hq).1;have:=(he.n q k).2;omega);(refine Ls (q0e (v:=v5) rfl)<|q0c<|bn<|tn<|q0a<|Ls (q1e rfl rfl (by omega))<|m_I rfl<|q0c<|tn ?_);exact ⟨m - (i+1),by omega,i+1,xs++[a],v5,r',rfl,by omega,rfl,rfl,rfl,rfl,by rw [List.length_append,hxs];rfl,ho5,hg05,e5,hdec⟩
      · obtain rfl:i=m:=(by omega);(refine q1b<|te<|te<|bx<|tn<|q0b<|q0a<|Ls (q0d (v:=v) rfl)<|Ls (q0e (v:=v) rfl)<|q0c<|tn<|q0r ?_);refine q0i rfl rfl (v:=v) rfl ?_;rw [Nat.sub_self] at hdec;refine DecR.got hg2 (hdec.trans (show _=Ce.Res.got xs l' from ?_)) [v] (ho.slR hR) e2;show Ce.Res.got (xs++[]) l'=_;rw [List.append_nil]
set_option maxRecDepth 100000 in
set_option maxHeartbeats 1000000 in
theorem delL {α:Type} {R:Rep α} (hR:R.Ok) (hz:∀ {N:Nat→Prop} {w:World} {y:List Value} {a:α},R N w y a→y.length=6) (id:FuncId) [TFun Tryz.prog id] (first cap:Array Value) (N:Nat→Prop) (p:Nat) (S:Ce.Ps α) (l:List Nat) (w:World)
    (hf:DecF id first cap p N S R agV) (he:DecAt N p w l) :
    Calls Tryz.prog 76 #[.pointer (some ⟨p,0,none⟩),.func (.func id) first cap] w (DecR (Ce.els S) (slR 6 R) hdV N p l w):=by
  refine q0l Tryz.func76 rfl Tryz.ntmps76 rfl ?_;have ct:=dint N p l w he;have hb:∀ x,Ce.num 4 l=x→Ce.els S l=x.bind (Ce.rep S):=fun x h=>by rw [← h];rfl
  have hpl:=he.lt;(refine q0b<|q0a<|a_S rfl<|q0c<|tn<|q0b<|q0a<|a_S rfl<|q0c<|tn<|q0b<|q0b<|q0a<|m_P rfl ?_);cases hS:Ce.num 4 l with
  | err x =>
    rw [hS] at ct;refine q8l ct rfl ?_;rintro e w1 ⟨hg1,rfl⟩;exact .inr ⟨_,rfl,rfl,DecR.err hg1 (hb _ hS)⟩
  | got m r =>
    rw [hS] at ct;refine L_fn ct rfl ?_;rintro e w1 ⟨hg1,rfl,hm,e1⟩;refine ⟨_,rfl,?_⟩;have hS2:Ce.els S l=Ce.rep S m r:=hb _ hS;clear hS hb ct;(refine m_I rfl<|q0c<|tn<|q0j ?_);refine q1k (fun q f w'=>∃ i xs v l',q=m - i∧i≤m∧f 1=.func (.func id) first cap∧f 5=v∧f 7=.int .i64 (m:Nat)∧f 8=.int .i64 (i:Nat)∧xs.length=i∧OutAt 99 6 R w w' v xs∧w.grownBy w' (some p)∧DecAt N p w' l'∧Ce.els S l=Ce.Res.app xs (Ce.rep S (m - i) l')) m ?_ ?_
    · refine ⟨0,[],.slice none 0 0,r,rfl,by omega,rfl,rfl,rfl,rfl,rfl,⟨[],rfl,(fun _ h=>by cases h),⟨rfl,.inl ⟨rfl,rfl⟩⟩,(fun _ _ _ h=>by cases h)⟩,hg1,e1,?_⟩;rw [Ce.Res.app_nil];exact hS2
    · rintro q f w2 ⟨i,xs,v,l',rfl,hi,f1,f5,f7,f8,hxs,ho,hg2,e2,hdec⟩;rw [fold f1,fold f5,fold f7,fold f8];have hv:=ho.cell1;(refine q0b<|q0a<|Ls (q1w rfl rfl)<|q0c<|tn<|q0b ?_);refine q1d rfl (fun h=>?_) (fun h=>?_)
      · have hi':i < m:=(by omega);have ct:=hf w2 l' e2;(refine q0o<|tn<|q0b<|q0j<|q0a<|Ls (q0d (v:=v) rfl)<|Ls (q0d (v:=.func _ _ _) rfl) ?_);rw [show m - i=(m - (i+1))+1 by omega] at hdec;cases hS3:S l' with
        | err x =>
          refine z1g (vl:=[]) rfl ct rfl ?_;rintro e w3 ⟨hg3,h3⟩;rw [hS3] at h3;obtain rfl:e=_:=h3;refine .inr ⟨_,rfl,rfl,DecR.err (q0f hg2 hg3 fun q h=>.inl h) ?_⟩;rw [hdec,Ce.rep_err hS3];rfl
        | got a r' =>
          refine q6k (vl:=[]) rfl ct rfl ?_;rintro e w3 ⟨hg3,h3⟩;rw [hS3] at h3;obtain ⟨y,rfl,hy,e3⟩:=h3;refine ⟨_,rfl,?_⟩;rw [Ce.rep_got hS3,Ce.Res.app_app] at hdec;have hyl:=hz hy;have hg23:=q0f hg2 hg3 fun q h=>.inl h;have hvb:∀ q,v.ownBlock=some q→q < w2.heap.size:=by
            obtain ⟨ys,_,_,h3,_⟩:=ho;exact fun q hq=>(h3.lt q hq).2
          have ho3:=ho.other hR hg3 hpl;refine L_litA (l:=y) rfl ?_ ?_ ?_
          · exact hyl
          · decide
          intro u4 w4 r4 E4 hs4;obtain ⟨ys,y1,y2,own4,yR⟩:=(ho3.ext hR E4).h;have e4:=e3.ext E4;have hg4:=q0f hg23 (E4.row (some p)) fun q h=>.inl h;have hs4:=E4.size;have hs3:=hg3.size;have hs2:=hg2.size;have hy4:R (fun k=>w2.heap.size≤k∧k < w4.heap.size) w4 y a:=hR.mono (hR.ext hy E4) fun k hk=>⟨hk.1,by omega⟩;refine q1c rfl rfl own4 r4 (hR.one hy) (by omega) (by omega) (by omega) ?_;intro v5 w5 o5 hg5 hb5;have ho5:=OutAt.app (a:=a) hR y1 y2 own4 yR hy4 hyl hs2 hvb o5 hg5 hb5;have hv5:=ho5.cell1;have hg05:=q0f hg4 hg5 fun q hq=>.inr ((own4.lt q hq).1);have hpv:v.ownBlock ≠ some p:=fun e=>(by have:=(own4.lt p e).1;omega);have e5:DecAt N p w5 r':=e4.grown hg5 hpv fun q hq k=>(by have:=(own4.lt q hq).1;have:=(he.n q k).2;omega);(refine Ls (q0e (v:=v5) rfl)<|q0c<|bn<|tn<|q0a<|Ls (q1e rfl rfl (by omega))<|m_I rfl<|q0c<|tn ?_);exact ⟨m - (i+1),by omega,i+1,xs++[a],v5,r',rfl,by omega,rfl,rfl,rfl,rfl,by rw [List.length_append,hxs];rfl,ho5,hg05,e5,hdec⟩
      · obtain rfl:i=m:=(by omega);(refine q1b<|te<|te<|bx<|tn<|q0b<|q0a<|Ls (q0d (v:=v) rfl)<|Ls (q0e (v:=v) rfl)<|q0c<|tn<|q0r ?_);refine q0i rfl rfl (v:=v) rfl ?_;rw [Nat.sub_self] at hdec;refine DecR.got hg2 (hdec.trans (show _=Ce.Res.got xs l' from ?_)) [v] (ho.slR hR) e2;show Ce.Res.got (xs++[]) l'=_;rw [List.append_nil]
set_option maxRecDepth 100000 in
set_option maxHeartbeats 1000000 in
theorem delD {α:Type} {R:Rep α} (hR:R.Ok) (hz:∀ {N:Nat→Prop} {w:World} {y:List Value} {a:α},R N w y a→y.length=32) (id:FuncId) [TFun Tryz.prog id] (first cap:Array Value) (N:Nat→Prop) (p:Nat) (S:Ce.Ps α) (l:List Nat) (w:World)
    (hf:DecF id first cap p N S R agV) (he:DecAt N p w l) :
    Calls Tryz.prog 82 #[.pointer (some ⟨p,0,none⟩),.func (.func id) first cap] w (DecR (Ce.els S) (slR 32 R) hdV N p l w):=by
  refine q0l Tryz.func82 rfl Tryz.ntmps82 rfl ?_;have ct:=dint N p l w he;have hb:∀ x,Ce.num 4 l=x→Ce.els S l=x.bind (Ce.rep S):=fun x h=>by rw [← h];rfl
  have hpl:=he.lt;(refine q0b<|q0a<|a_S rfl<|q0c<|tn<|q0b<|q0a<|a_S rfl<|q0c<|tn<|q0b<|q0b<|q0a<|m_P rfl ?_);cases hS:Ce.num 4 l with
  | err x =>
    rw [hS] at ct;refine q8l ct rfl ?_;rintro e w1 ⟨hg1,rfl⟩;exact .inr ⟨_,rfl,rfl,DecR.err hg1 (hb _ hS)⟩
  | got m r =>
    rw [hS] at ct;refine L_fn ct rfl ?_;rintro e w1 ⟨hg1,rfl,hm,e1⟩;refine ⟨_,rfl,?_⟩;have hS2:Ce.els S l=Ce.rep S m r:=hb _ hS;clear hS hb ct;(refine m_I rfl<|q0c<|tn<|q0j ?_);refine q1k (fun q f w'=>∃ i xs v l',q=m - i∧i≤m∧f 1=.func (.func id) first cap∧f 5=v∧f 7=.int .i64 (m:Nat)∧f 8=.int .i64 (i:Nat)∧xs.length=i∧OutAt 23 32 R w w' v xs∧w.grownBy w' (some p)∧DecAt N p w' l'∧Ce.els S l=Ce.Res.app xs (Ce.rep S (m - i) l')) m ?_ ?_
    · refine ⟨0,[],.slice none 0 0,r,rfl,by omega,rfl,rfl,rfl,rfl,rfl,⟨[],rfl,(fun _ h=>by cases h),⟨rfl,.inl ⟨rfl,rfl⟩⟩,(fun _ _ _ h=>by cases h)⟩,hg1,e1,?_⟩;rw [Ce.Res.app_nil];exact hS2
    · rintro q f w2 ⟨i,xs,v,l',rfl,hi,f1,f5,f7,f8,hxs,ho,hg2,e2,hdec⟩;rw [fold f1,fold f5,fold f7,fold f8];have hv:=ho.cell1;(refine q0b<|q0a<|Ls (q1w rfl rfl)<|q0c<|tn<|q0b ?_);refine q1d rfl (fun h=>?_) (fun h=>?_)
      · have hi':i < m:=(by omega);have ct:=hf w2 l' e2;(refine q0o<|tn<|q0b<|q0j<|q0a<|Ls (q0d (v:=v) rfl)<|Ls (q0d (v:=.func _ _ _) rfl) ?_);rw [show m - i=(m - (i+1))+1 by omega] at hdec;cases hS3:S l' with
        | err x =>
          refine z1g (vl:=[]) rfl ct rfl ?_;rintro e w3 ⟨hg3,h3⟩;rw [hS3] at h3;obtain rfl:e=_:=h3;refine .inr ⟨_,rfl,rfl,DecR.err (q0f hg2 hg3 fun q h=>.inl h) ?_⟩;rw [hdec,Ce.rep_err hS3];rfl
        | got a r' =>
          refine q6k (vl:=[]) rfl ct rfl ?_;rintro e w3 ⟨hg3,h3⟩;rw [hS3] at h3;obtain ⟨y,rfl,hy,e3⟩:=h3;refine ⟨_,rfl,?_⟩;rw [Ce.rep_got hS3,Ce.Res.app_app] at hdec;have hyl:=hz hy;have hg23:=q0f hg2 hg3 fun q h=>.inl h;have hvb:∀ q,v.ownBlock=some q→q < w2.heap.size:=by
            obtain ⟨ys,_,_,h3,_⟩:=ho;exact fun q hq=>(h3.lt q hq).2
          have ho3:=ho.other hR hg3 hpl;refine L_litA (l:=y) rfl ?_ ?_ ?_
          · exact hyl
          · decide
          intro u4 w4 r4 E4 hs4;obtain ⟨ys,y1,y2,own4,yR⟩:=(ho3.ext hR E4).h;have e4:=e3.ext E4;have hg4:=q0f hg23 (E4.row (some p)) fun q h=>.inl h;have hs4:=E4.size;have hs3:=hg3.size;have hs2:=hg2.size;have hy4:R (fun k=>w2.heap.size≤k∧k < w4.heap.size) w4 y a:=hR.mono (hR.ext hy E4) fun k hk=>⟨hk.1,by omega⟩;refine q1c rfl rfl own4 r4 (hR.one hy) (by omega) (by omega) (by omega) ?_;intro v5 w5 o5 hg5 hb5;have ho5:=OutAt.app (a:=a) hR y1 y2 own4 yR hy4 hyl hs2 hvb o5 hg5 hb5;have hv5:=ho5.cell1;have hg05:=q0f hg4 hg5 fun q hq=>.inr ((own4.lt q hq).1);have hpv:v.ownBlock ≠ some p:=fun e=>(by have:=(own4.lt p e).1;omega);have e5:DecAt N p w5 r':=e4.grown hg5 hpv fun q hq k=>(by have:=(own4.lt q hq).1;have:=(he.n q k).2;omega);(refine Ls (q0e (v:=v5) rfl)<|q0c<|bn<|tn<|q0a<|Ls (q1e rfl rfl (by omega))<|m_I rfl<|q0c<|tn ?_);exact ⟨m - (i+1),by omega,i+1,xs++[a],v5,r',rfl,by omega,rfl,rfl,rfl,rfl,by rw [List.length_append,hxs];rfl,ho5,hg05,e5,hdec⟩
      · obtain rfl:i=m:=(by omega);(refine q1b<|te<|te<|bx<|tn<|q0b<|q0a<|Ls (q0d (v:=v) rfl)<|Ls (q0e (v:=v) rfl)<|q0c<|tn<|q0r ?_);refine q0i rfl rfl (v:=v) rfl ?_;rw [Nat.sub_self] at hdec;refine DecR.got hg2 (hdec.trans (show _=Ce.Res.got xs l' from ?_)) [v] (ho.slR hR) e2;show Ce.Res.got (xs++[]) l'=_;rw [List.append_nil]
end Go.Proofs.YtbolofkandcnlaaGreatDoor
namespace Ce
def Res.map {α β:Type} (f:α→β):Res α→Res β
  | .err e=>.err e
  | .got a r=>.got (f a) r
theorem mapP_eq {α β:Type} (p:Ps α) (f:α→β) (l:List Nat):mapP p f l=Res.map f (p l):=by
  show (p l).bind _=_;cases p l <;> rfl
theorem seq_err {α β γ:Type} {c:Cod α} {d:Cod β} {r:List Nat} {x:Nat} (h:c.p r=.err x) (g:α × β→γ):Res.map g ((c.seq d).p r)=.err x:=by
  show Res.map g ((c.p r).bind _)=_;rw [h];rfl
theorem seq_got {α β γ:Type} {c:Cod α} {d:Cod β} {r r':List Nat} {a:α} (h:c.p r=.got a r') (g:α × β→γ):Res.map g ((c.seq d).p r)=Res.map (fun b=>g (a,b)) (d.p r'):=by
  show Res.map g ((c.p r).bind _)=_;rw [h];show Res.map g ((d.p r').bind _)=_;cases d.p r' <;> rfl
theorem map_errR {α γ:Type} {c:Cod α} {r:List Nat} {x:Nat} (h:c.p r=.err x) (g:α→γ):Res.map g (c.p r)=.err x:=by rw [h];rfl
theorem map_gotR {α γ:Type} {c:Cod α} {r r':List Nat} {a:α} (h:c.p r=.got a r') (g:α→γ):Res.map g (c.p r)=.got (g a) r':=by rw [h];rfl
end Ce
namespace Go.Proofs.YtbolofkandcnlaaGreatDoor
open Go.RowKit Go.Proofs.K
section
variable {n:NN} {Q:Exit→Fr→World→Prop} {f:Fr} {w:World} {ops:Array Oper} {rest:List Oper} {d:Tmp} {t:TypeId} {pos:String} {af:Array Edge}
theorem q6s {α:Type} {S:Ce.Ps α} {R:Rep α} {V:List Value→Value} {N:Nat→Prop} {p:Nat} {l:List Nat} {id:FuncId} [TFun Tryz.prog id] {o:List Operand} {vl:List Value} {tys:Array TypeId}
    (c:Calls Tryz.prog id vl.toArray w (DecR S R V N p l w)) (ha:o.map (ev n f)=vl) (herr:∀ x w',w.grownBy w' (some p)→S l=.err x→Q (.panic (erV x)) f w')
    (hgot:∀ a r y w',w.grownBy w' (some p)→S l=.got a r→R (fun k=>w.heap.size≤k∧k < w'.heap.size) w' y a→DecAt N p w' r→L Tryz.prog n ops Q rest (upd f d (V y)) w') :
    L Tryz.prog n ops Q (⟨some d,.call ⟨.value (.func id),o.toArray,tys⟩,t,pos,af,none⟩ :: rest) f w:=by
  refine q8l c ha ?_;rintro e w' ⟨hg,h⟩;cases hS:S l with
  | err x =>
    rw [hS] at h;exact .inr ⟨_,h,herr x w' hg hS⟩
  | got a r =>
    rw [hS] at h;obtain ⟨y,he,hy,hd⟩:=h;exact .inl ⟨_,he,hgot a r y w' hg hS hy hd⟩
end
theorem dfE (N:Nat→Prop) (p:Nat):DecF 78 #[ptr p] #[] p N Ce.extC.p exR agV:=fun w l he=>dext N p l w he
theorem dfW (N:Nat→Prop) (p:Nat):DecF 117 #[ptr p] #[] p N Ce.wordC.p (numR .u64) hdV:=fun w l he=>dword N p l w he
theorem dfB (N:Nat→Prop) (p:Nat):DecF 69 #[ptr p] #[] p N Ce.byteC.p (numR .u8) hdV:=fun w l he=>dbyte N p l w he
theorem dfI (N:Nat→Prop) (p:Nat):DecF 73 #[ptr p] #[] p N (Ce.numC 8).p sumR hdV:=fun w l he=>dsum N p l w he
theorem dfD (N:Nat→Prop) (p:Nat):DecF 71 #[ptr p] #[] p N (Ce.raw 32).p (byR 32) agV:=fun w l he=>ddigest N p l w he
theorem z2a {N:Nat→Prop} {w:World} {y:List Value} {a:Nat × Nat} (h:exR N w y a):y.length=2:=by
  have h:y=exC _ _:=h;subst h;rfl
theorem numR_len {k:IntKind} {N:Nat→Prop} {w:World} {y:List Value} {a:Nat} (h:numR k N w y a):y.length=1:=by
  have h:y=[_]:=h;subst h;rfl
theorem sumR_len {N:Nat→Prop} {w:World} {y:List Value} {a:Nat} (h:sumR N w y a):y.length=1:=by
  obtain ⟨z,h,_⟩:=h;subst h;rfl
theorem byR_len {m:Nat} {N:Nat→Prop} {w:World} {y:List Value} {a:List Nat} (h:byR m N w y a):y.length=m:=by
  obtain ⟨h,h2⟩:=h;subst h;rw [q0t,h2]
theorem z1s {α:Type} {size:Nat} {R:Rep α} {N:Nat→Prop} {w:World} {y:List Value} {a:List α} (h:slR size R N w y a):y.length=1:=by
  obtain ⟨v,h,_⟩:=h;subst h;rfl
theorem lpR_len {N:Nat→Prop} {w:World} {y:List Value} {a:Ce.LP} (h:lpR N w y a):y.length=6:=by
  obtain ⟨a,b,h,_⟩:=h;subst h;rfl
set_option maxRecDepth 100000 in
set_option maxHeartbeats 1000000 in
theorem dround (N:Nat→Prop) (p:Nat) (l:List Nat) (w:World) (he:DecAt N p w l) :
    Calls Tryz.prog 75 #[.pointer (some ⟨p,0,none⟩)] w (DecR Ce.roundC.p (slR 2 exR) hdV N p l w):=by
  refine q0l Tryz.func75 rfl Tryz.ntmps75 rfl ?_;(refine q0b<|q0a<|a_S rfl<|q0c<|tn<|q0b<|q0a<|m_P rfl<|m_P rfl ?_);refine Ls (q1u (vf:=[ptr p]) (vc:=[]) rfl rfl) ?_;refine q6s (delE q3p z2a 78 #[ptr p] #[] N p Ce.extC.p l w (dfE N p) he) rfl ?_ ?_
  · exact fun x w1 hg1 hS=>⟨rfl,DecR.err hg1 hS⟩
  · intro a r y w1 hg1 hS hy e1;obtain ⟨v,rfl⟩:=q2f hy;have hv:=q0y.one hy v (List.mem_singleton.2 rfl);(refine Ls (q0e (v:=v) rfl)<|q0c<|tn<|q0r ?_);exact q0i rfl rfl (v:=v) rfl (DecR.got hg1 hS [v] hy e1)
set_option maxRecDepth 100000 in
set_option maxHeartbeats 1000000 in
theorem dcolumn (N:Nat→Prop) (p:Nat) (l:List Nat) (w:World) (he:DecAt N p w l) :
    Calls Tryz.prog 81 #[.pointer (some ⟨p,0,none⟩)] w (DecR (Ce.lst Ce.wordC).p (slR 1 (numR .u64)) hdV N p l w):=by
  refine q0l Tryz.func81 rfl Tryz.ntmps81 rfl ?_;(refine q0b<|q0a<|a_S rfl<|q0c<|tn<|q0b<|q0a<|m_P rfl<|m_P rfl ?_);refine Ls (q1u (vf:=[ptr p]) (vc:=[]) rfl rfl) ?_;refine q6s (delW (q1y _) numR_len 117 #[ptr p] #[] N p Ce.wordC.p l w (dfW N p) he) rfl ?_ ?_
  · exact fun x w1 hg1 hS=>⟨rfl,DecR.err hg1 hS⟩
  · intro a r y w1 hg1 hS hy e1;obtain ⟨v,rfl⟩:=q2f hy;have hv:=(q1j (by decide) (q1y _)).one hy v (List.mem_singleton.2 rfl);(refine Ls (q0e (v:=v) rfl)<|q0c<|tn<|q0r ?_);exact q0i rfl rfl (v:=v) rfl (DecR.got hg1 hS [v] hy e1)
theorem dfR (N:Nat→Prop) (p:Nat):DecF 75 #[ptr p] #[] p N Ce.roundC.p (slR 2 exR) hdV:=fun w l he=>dround N p l w he
theorem dfC (N:Nat→Prop) (p:Nat):DecF 81 #[ptr p] #[] p N (Ce.lst Ce.wordC).p (slR 1 (numR .u64)) hdV:=fun w l he=>dcolumn N p l w he
def Nw (w:World) (g g':Nat) (a:World):Nat→Prop:=fun k=>w.heap.size≤k∧k < a.heap.size∧k ≠ g∧k ≠ g'
theorem Rep.Ok.nw {α:Type} {R:Rep α} (hR:R.Ok) {w a b:World} {g g' q:Nat} {y:List Value} {x:α} (h:R (Nw w g g' a) a y x) (hg:a.grownBy b (some q)) (hq:q < w.heap.size∨q=g∨q=g'):R (Nw w g g' b) b y x :=
  hR.mono (hR.grown h hg fun q' e k=>by
    cases e
    have:=k.1
    have:=k.2.2
    omega) fun k hk=>⟨hk.1,Nat.lt_of_lt_of_le hk.2.1 hg.size,hk.2.2⟩
theorem Rep.Ok.nwE {α:Type} {R:Rep α} (hR:R.Ok) {w a b:World} {g g':Nat} {y:List Value} {x:α} (h:R (Nw w g g' a) a y x) (E:Ext a b):R (Nw w g g' b) b y x :=
  hR.mono (hR.ext h E) fun _ hk=>⟨hk.1,Nat.lt_of_lt_of_le hk.2.1 E.size,hk.2.2⟩
theorem Rep.Ok.nw0 {α:Type} {R:Rep α} (hR:R.Ok) {w a b:World} {g g':Nat} {y:List Value} {x:α} (h:R (fun k=>a.heap.size≤k∧k < b.heap.size) b y x) (h0:w.heap.size≤a.heap.size) (h1:g < a.heap.size∨b.heap.size≤g) (h2:g' < a.heap.size∨b.heap.size≤g'):R (Nw w g g' b) b y x :=
  hR.mono h fun k hk=>⟨by omega,hk.2,by omega,by omega⟩
structure DSt (N:Nat→Prop) (p:Nat) (w a:World) (l:List Nat):Prop where
  g:w.grownBy a (some p)
  d:DecAt N p a l
theorem DSt.call {N:Nat→Prop} {p:Nat} {w a b:World} {l r:List Nat} (h:DSt N p w a l) (hg:a.grownBy b (some p)) (hd:DecAt N p b r):DSt N p w b r:=⟨q0f h.g hg fun _ h=>.inl h,hd⟩
theorem DSt.err {N:Nat→Prop} {p:Nat} {w a b:World} {l:List Nat} (h:DSt N p w a l) (hg:a.grownBy b (some p)):w.grownBy b (some p):=q0f h.g hg fun _ h=>.inl h
theorem DSt.ext {N:Nat→Prop} {p:Nat} {w a b:World} {l:List Nat} (h:DSt N p w a l) (E:Ext a b):DSt N p w b l:=⟨q0f h.g (E.row (some p)) fun _ h=>.inl h,h.d.ext E⟩
theorem DSt.set {N:Nat→Prop} {p q:Nat} {w a b:World} {l l0:List Nat} (h:DSt N p w a l) (h0:DecAt N p w l0) (hg:a.grownBy b (some q)) (hq:w.heap.size≤q):DSt N p w b l :=
  ⟨q0f h.g hg fun q' e=>by cases e;exact .inr hq,h.d.grown hg (by intro e;cases e;have:=h0.lt;omega) fun q' e k=>by cases e;have:=(h0.n _ k).2;omega⟩
theorem q3o {v:Value} (h:v.oneCell'=true):v.cells=#[v]:=by cases v <;> first | rfl | cases h
end Go.Proofs.YtbolofkandcnlaaGreatDoor
namespace Go.Proofs.YtbolofkandcnlaaGreatDoor
open Go.RowKit Go.Proofs.K
set_option maxRecDepth 100000 in
set_option maxHeartbeats 2000000 in
theorem dlayer (N:Nat→Prop) (p:Nat) (l:List Nat) (w:World) (he:DecAt N p w l) :
    Calls Tryz.prog 77 #[.pointer (some ⟨p,0,none⟩)] w (DecR Ce.lpC.p lpR agV N p l w):=by
  refine q0l Tryz.func77 rfl Tryz.ntmps77 rfl ?_;have h0:Ce.lpC.p l=Ce.Res.map (fun x=>(⟨x.1,x.2.1,x.2.2.1,x.2.2.2⟩:Ce.LP)) (((Ce.lst Ce.roundC).seq (Ce.extC.seq (Ce.extC.seq Ce.roundC))).p l):=Ce.mapP_eq _ _ _;(refine q0b<|q0a ?_);refine q0z ?_;intro g2 w2 B2 hg2 E2 hs2;have hpl:=he.lt;have D2:DSt N p w w2 l:=⟨E2.row _,he.ext E2⟩;have B2l:=q2x B2;(refine q0c<|tn<|q0b<|q0a<|m_P rfl<|m_P rfl ?_);refine Ls (q1u (vf:=[ptr p]) (vc:=[]) rfl rfl) ?_;refine q6s (delR q0y z1s 75 #[ptr p] #[] N p Ce.roundC.p l w2 (dfR N p) D2.d) rfl ?_ ?_
  · exact fun x w3 hg3 hS=>⟨rfl,DecR.err (D2.err hg3) (h0.trans (Ce.seq_err (c:=Ce.lst Ce.roundC) hS _))⟩
  intro a3 r3 y3 w3 hg3 hS3 hy3 e3;have h3:=h0.trans (Ce.seq_got (c:=Ce.lst Ce.roundC) hS3 _);have D3:=D2.call hg3 e3;have hs3:=hg3.size;have B3:=B2.grown hg3 (by intro h;cases h;omega);obtain ⟨v3,rfl⟩:=q2f hy3;have c3:=q1i.one hy3 v3 (List.mem_singleton.2 rfl);skip;refine Ls (q1x (r:=[(0,.tmp 7)]) (zs':=[[v3],[.int .u64 0,.int .u64 0],[.int .u64 0,.int .u64 0],[.slice none 0 0]]) (Parts.cons (c:=[v3]) (z:=[.slice none 0 0]) rfl (q3o c3) rfl rfl (Parts.nil _))) ?_;refine q0z ?_;intro g4 w4 B4 hg4 E4 hs4;have D4:=D3.ext E4;refine q0m (l:=[v3,.int .u64 0,.int .u64 0,.int .u64 0,.int .u64 0,.slice none 0 0]) rfl rfl rfl ?_ B4 rfl ?_
  · intro v hv;simp at hv;rcases hv with rfl | rfl | rfl <;> first | exact c3 | rfl
  intro w5 B5 hg5 hs5;have D5:=D4.set he hg5 (by omega);have B5':=(B3.ext E4).grown hg5 (by intro h;cases h;omega);have hy5:=q1i.nw (q1i.nwE (q1i.nw0 (w:=w) (g:=g2) (g':=g4) hy3 (by omega) (.inl (by omega)) (.inr (by omega))) E4) hg5 (.inr (.inr rfl));(refine q0c<|tn<|q0b<|q0a<|m_P rfl ?_);refine q6s (dext N p r3 w5 D5.d) rfl ?_ ?_
  · exact fun x w6 hg6 hS=>⟨rfl,DecR.err (D5.err hg6) (h3.trans (Ce.seq_err hS _))⟩
  intro a6 r6 y6 w6 hg6 hS6 hy6 e6;have h6:=h3.trans (Ce.seq_got hS6 _);have D6:=D5.call hg6 e6;obtain rfl:y6=exC a6.1 a6.2:=hy6;have hs6:=hg6.size;have B6:=B5.grown hg6 (by intro h;cases h;omega);have B6':=B5'.grown hg6 (by intro h;cases h;omega);have hy6:=q1i.nw hy5 hg6 (.inl (by omega));(refine Ls (q0g rfl) ?_);refine q4h (size:=2) (l:=exC a6.1 a6.2) rfl rfl rfl q4t B6 (Nat.le_of_ble_eq_true rfl) ?_;intro w7 B7 hg7 hs7;have D7:=D6.set he hg7 (by omega);have B7':=B6'.grown hg7 (by intro h;cases h;omega);have hy7:=q1i.nw hy6 hg7 (.inr (.inr rfl));(refine q0c<|tn<|q0b<|q0a<|m_P rfl ?_);refine q6s (dext N p r6 w7 D7.d) rfl ?_ ?_
  · exact fun x w8 hg8 hS=>⟨rfl,DecR.err (D7.err hg8) (h6.trans (Ce.seq_err hS _))⟩
  intro a8 r8 y8 w8 hg8 hS8 hy8 e8;have h8:=h6.trans (Ce.seq_got hS8 _);have D8:=D7.call hg8 e8;obtain rfl:y8=exC a8.1 a8.2:=hy8;have hs8:=hg8.size;have B8:=B7.grown hg8 (by intro h;cases h;omega);have B8':=B7'.grown hg8 (by intro h;cases h;omega);have hy8:=q1i.nw hy7 hg8 (.inl (by omega));(refine Ls (q0g rfl) ?_);refine q4h (size:=2) (l:=exC a8.1 a8.2) rfl rfl rfl q4t B8 (Nat.le_of_ble_eq_true rfl) ?_;intro w9 B9 hg9 hs9;have D9:=D8.set he hg9 (by omega);have B9':=B8'.grown hg9 (by intro h;cases h;omega);have hy9:=q1i.nw hy8 hg9 (.inr (.inr rfl));(refine q0c<|tn<|q0b<|q0a<|m_P rfl<|m_P rfl ?_);refine Ls (q1u (vf:=[ptr p]) (vc:=[]) rfl rfl) ?_;refine q6s (delE q3p z2a 78 #[ptr p] #[] N p Ce.extC.p r8 w9 (dfE N p) D9.d) rfl ?_ ?_
  · exact fun x w10 hg10 hS=>⟨rfl,DecR.err (D9.err hg10) (h8.trans (Ce.map_errR (c:=Ce.roundC) hS _))⟩
  intro a10 r10 y10 w10 hg10 hS10 hy10 e10;have h10:=h8.trans (Ce.map_gotR (c:=Ce.roundC) hS10 _);have D10:=D9.call hg10 e10;obtain ⟨v10,rfl⟩:=q2f hy10;have c10:=q0y.one hy10 v10 (List.mem_singleton.2 rfl);have hs10:=hg10.size;have B10:=B9.grown hg10 (by intro h;cases h;omega);have B10':=B9'.grown hg10 (by intro h;cases h;omega);have hya10:=q1i.nw hy9 hg10 (.inl (by omega));have hyb10:=q0y.nw0 (w:=w) (g:=g2) (g':=g4) hy10 (by omega) (.inl (by omega)) (.inl (by omega));(refine Ls (q0g rfl) ?_);refine q1a (v:=v10) rfl rfl c10 B10 (Nat.le_of_ble_eq_true rfl) ?_;intro w11 B11 hg11 hs11;have D11:=D10.set he hg11 (by omega);have B11':=B10'.grown hg11 (by intro h;cases h;omega);have hya11:=q1i.nw hya10 hg11 (.inr (.inr rfl));have hyb11:=q0y.nw hyb10 hg11 (.inr (.inr rfl));have B11:Blk w11 g4 99 [v3,.int .u64 (a6.1:Nat),.int .u64 (a6.2:Nat),.int .u64 (a8.1:Nat),.int .u64 (a8.2:Nat),v10]:=B11;(refine q0c<|tn<|q0b<|q0a<|Ls (q2o rfl B11 rfl) ?_);refine q0m (l:=[v3,.int .u64 (a6.1:Nat),.int .u64 (a6.2:Nat),.int .u64 (a8.1:Nat),.int .u64 (a8.2:Nat),v10]) rfl rfl rfl ?_ B11' rfl ?_
  · intro v hv;simp at hv;rcases hv with rfl | rfl | rfl | rfl | rfl | rfl <;> first | exact c3 | exact c10 | rfl
  intro w12 B12 hg12 hs12;have D12:=D11.set he hg12 (by omega);have hya12:=q1i.nw hya11 hg12 (.inr (.inl rfl));have hyb12:=q0y.nw hyb11 hg12 (.inr (.inl rfl));(refine q0c<|tn<|q0r ?_);refine q1h rfl rfl (Res.cellA inferInstance rfl (B12.range (o:=0) (fun j u h=>by simpa using h)) rfl .nil) ?_;exact DecR.got D12.g h10 [v3,.int .u64 (a6.1:Nat),.int .u64 (a6.2:Nat),.int .u64 (a8.1:Nat),.int .u64 (a8.2:Nat),v10] ⟨v3,v10,rfl,q1i.mono hya12 fun k hk=>⟨hk.1,hk.2.1⟩,q0y.mono hyb12 fun k hk=>⟨hk.1,hk.2.1⟩⟩ D12.d
theorem dfL (N:Nat→Prop) (p:Nat):DecF 77 #[ptr p] #[] p N Ce.lpC.p lpR agV:=fun w l he=>dlayer N p l w he
end Go.Proofs.YtbolofkandcnlaaGreatDoor
namespace Ce
theorem seq4 {β γ:Type} {d:Cod β} {r:List Nat} (g:Nat × Nat × Nat × Nat × β→γ):Res.map g (((numC 4).seq ((numC 4).seq ((numC 4).seq ((numC 4).seq d)))).p r) =
    (rep (num 4) 4 r).bind fun l r'=>Res.map (fun b=>g (l.getD 0 0,l.getD 1 0,l.getD 2 0,l.getD 3 0,b)) (d.p r'):=by
  cases h1:(numC 4).p r with
  | err x=>rw [seq_err h1,rep_err (show num 4 r=_ from h1)];rfl
  | got a1 r1 =>
    rw [seq_got h1,rep_got (show num 4 r=_ from h1)];cases h2:(numC 4).p r1 with
    | err x=>rw [seq_err h2,rep_err (show num 4 r1=_ from h2)];rfl
    | got a2 r2 =>
      rw [seq_got h2,rep_got (show num 4 r1=_ from h2)];cases h3:(numC 4).p r2 with
      | err x=>rw [seq_err h3,rep_err (show num 4 r2=_ from h3)];rfl
      | got a3 r3 =>
        rw [seq_got h3,rep_got (show num 4 r2=_ from h3)];cases h4:(numC 4).p r3 with
        | err x=>rw [seq_err h4,rep_err (show num 4 r3=_ from h4)];rfl
        | got a4 r4=>rw [seq_got h4,rep_got (show num 4 r3=_ from h4)];rfl
def certD:Ps Cert:=fun b=>(certC.p b).bind fun c r=>if r=[] then .got c r else .err 5
end Ce
namespace Go.Proofs.YtbolofkandcnlaaGreatDoor
open Go.RowKit Go.Proofs.K
theorem slR_rowNums {k:IntKind} {N:Nat→Prop} {w:World} {v:Value} {l:List Nat} (h:slR 1 (numR k) N w [v] l):RowN N w 1 v l.length (ints k l):=by
  obtain ⟨v',e,ys,h1,h2,h3,h4⟩:=h;cases e
  have:ys.flatten=ints k l:=by
    have e:ys=(ints k l).map fun u=>[u]:=by
      apply List.ext_getElem?;intro i;rw [List.getElem?_map];rcases Nat.lt_or_ge i l.length with hi | hi
      · obtain ⟨y,hy⟩:∃ y,ys[i]?=some y:=⟨_,List.getElem?_eq_getElem (by omega)⟩;obtain ⟨a,ha⟩:∃ a,l[i]?=some a:=⟨_,List.getElem?_eq_getElem hi⟩;have:y=[_]:=h4 i y a hy ha;rw [hy,q9s ha,this];rfl
      · rw [List.getElem?_eq_none (by omega),List.getElem?_eq_none (by rw [q0t];omega)];rfl
    rw [e];induction ints k l with
    | nil=>rfl
    | cons a l ih=>rw [List.map_cons,List.flatten_cons,ih];rfl
  rw [this] at h3;exact h3
def dC (q lg:Value) (root t:List Value):List Value:=[q,lg]++root++t
section
variable {q lg v:Value} {root t l:List Value}
theorem q2g (h:root.length=32):(dC q lg root t).length=34+t.length:=by
  simp [dC,h];omega
theorem dC_root (h:root.length=32):(dC q lg root t).take 2++l++(dC q lg root t).drop 34=dC q lg l t:=by
  show [q,lg]++l++((root++t).drop 32)=[q,lg]++l++t;rw [← h,List.drop_left]
theorem q4i (h:root.length=32) (j:Nat):(dC q lg root t).set (34+j) v=dC q lg root (t.set j v):=by
  unfold dC;have e:([q,lg]++root).length=34:=by simp [h]
  rw [List.set_append,if_neg (by omega),e,Nat.add_sub_cancel_left]
theorem z0y (h:root.length=32) (j m:Nat):(dC q lg root t).take (34+j)++l++(dC q lg root t).drop (34+j+m)=dC q lg root (t.take j++l++t.drop (j+m)):=by
  unfold dC;have e:([q,lg]++root).length=34:=by simp [h]
  rw [List.take_append,List.drop_append,e,List.take_of_length_le (by omega),List.drop_eq_nil_of_le (by omega),Nat.add_sub_cancel_left,show 34+j+m - 34=j+m by omega,List.nil_append];simp only [List.append_assoc]
end
theorem CerAt.nw {w a b:World} {g g' r:Nat} {c:Ce.Cert} {qb:ByteArray} {s1 p1 p2 p3 b1 o1 o2 o3 o4:Value} (h:CerAt (Nw w g g' a) a c qb s1 p1 p2 p3 b1 o1 o2 o3 o4) (hg:a.grownBy b (some r)) (hq:r < w.heap.size∨r=g∨r=g'):CerAt (Nw w g g' b) b c qb s1 p1 p2 p3 b1 o1 o2 o3 o4 :=
  ⟨h.q,(q1j (by decide) q2r).nw h.s1 hg hq,q1i.nw h.p1 hg hq,q1t.nw h.p2 hg hq,q1t.nw h.p3 hg hq,q1i.nw h.b1 hg hq,q0y.nw h.o1 hg hq,q0y.nw h.o2 hg hq,q3u.nw h.o3 hg hq,q4n.nw h.o4 hg hq⟩
theorem CerAt.mono {N N':Nat→Prop} {w:World} {c:Ce.Cert} {qb:ByteArray} {s1 p1 p2 p3 b1 o1 o2 o3 o4:Value} (h:CerAt N w c qb s1 p1 p2 p3 b1 o1 o2 o3 o4) (hN:∀ k,N k→N' k):CerAt N' w c qb s1 p1 p2 p3 b1 o1 o2 o3 o4 :=
  ⟨h.q,(q1j (by decide) q2r).mono h.s1 hN,q1i.mono h.p1 hN,q1t.mono h.p2 hN,q1t.mono h.p3 hN,q1i.mono h.b1 hN,q0y.mono h.o1 hN,q0y.mono h.o2 hN,q3u.mono h.o3 hN,q4n.mono h.o4 hN⟩
theorem CerAt.one {N:Nat→Prop} {w:World} {c:Ce.Cert} {qb:ByteArray} {s1 p1 p2 p3 b1 o1 o2 o3 o4:Value} (h:CerAt N w c qb s1 p1 p2 p3 b1 o1 o2 o3 o4):∀ v∈cerC c qb s1 p1 p2 p3 b1 o1 o2 o3 o4,v.oneCell'=true:=by
  intro v hv;have k1:=(q1j (by decide) q2r).one h.s1 s1 (List.mem_singleton.2 rfl);have k2:=q1i.one h.p1 p1 (List.mem_singleton.2 rfl);have k3:=q1t.one h.p2 p2 (List.mem_singleton.2 rfl);have k4:=q1t.one h.p3 p3 (List.mem_singleton.2 rfl);have k5:=q1i.one h.b1 b1 (List.mem_singleton.2 rfl);have k6:=q0y.one h.o1 o1 (List.mem_singleton.2 rfl);have k7:=q0y.one h.o2 o2 (List.mem_singleton.2 rfl);have k8:=q3u.one h.o3 o3 (List.mem_singleton.2 rfl);have k9:=q4n.one h.o4 o4 (List.mem_singleton.2 rfl);unfold cerC at hv;simp only [List.mem_append] at hv;rcases hv with (hv | hv) | hv
  · simp at hv;rcases hv with rfl | rfl <;> rfl
  · exact q0w v hv
  · simp at hv;rcases hv with rfl | rfl | rfl | rfl | rfl | rfl | rfl | rfl | rfl | rfl | rfl | rfl | rfl | rfl | rfl <;> first | assumption | rfl
theorem q7j {c:Ce.Cert} {qb:ByteArray} {s1 p1 p2 p3 b1 o1 o2 o3 o4:Value} (h:c.root.length=32):(cerC c qb s1 p1 p2 p3 b1 o1 o2 o3 o4).length=49:=by
  unfold cerC;simp [q0t,h]
theorem lstB_lt {l r:List Nat} {q:List Nat} (hb:∀ y∈l,y < 256) (h:(Ce.lst Ce.byteC).p l=.got q r):∀ x∈q,x < 256:=fun x hx=>by
  have:=((Ce.lst_law Ce.byteC_law).inv l q r hb h).1.2 x hx;exact Ce.numC_lt this
def natR:Rep Nat:=fun _ _ x a=>x=[.int .i64 (a:Nat)]∧a < 4294967296
theorem dintR (N:Nat→Prop) (p:Nat) (l:List Nat) (w:World) (he:DecAt N p w l) :
    Calls Tryz.prog 70 #[.pointer (some ⟨p,0,none⟩)] w (DecR (Ce.numC 4).p natR hdV N p l w):=by
  refine (dint N p l w he).mono fun e w' h=>⟨h.1,?_⟩;have h2:=h.2;rw [show (Ce.numC 4).p l=Ce.num 4 l from rfl];cases hS:Ce.num 4 l with
  | err x=>rw [hS] at h2;exact h2
  | got a r =>
    rw [hS] at h2;exact ⟨[_],h2.1,⟨rfl,h2.2.1⟩,h2.2.2⟩
theorem set_mid {xs ys:List Value} {y v:Value} {i:Nat} (h:xs.length=i):(xs++y :: ys).set i v=xs++v :: ys:=by
  rw [List.set_append,if_neg (by omega),h,Nat.sub_self];rfl
set_option maxRecDepth 100000 in
set_option maxHeartbeats 4000000 in
theorem dcert (N:Nat→Prop) (p:Nat) (l:List Nat) (w:World) (he:DecAt N p w l) :
    Calls Tryz.prog 23 #[.pointer (some ⟨p,0,none⟩)] w (DecR Ce.certD cerR agV N p l w):=by
  refine q0l Tryz.func23 rfl Tryz.ntmps23 rfl ?_;have h0:Ce.certC.p l=Ce.Res.map Ce.ofT (((Ce.lst Ce.byteC).seq ((Ce.numC 4).seq ((Ce.raw 32).seq ((Ce.numC 4).seq ((Ce.numC 4).seq ((Ce.numC 4).seq ((Ce.numC 4).seq ((Ce.lst (Ce.numC 8)).seq ((Ce.lst Ce.roundC).seq ((Ce.lst Ce.lpC).seq ((Ce.lst Ce.lpC).seq ((Ce.lst Ce.roundC).seq (Ce.extC.seq (Ce.roundC.seq (Ce.roundC.seq ((Ce.lst (Ce.lst Ce.wordC)).seq (Ce.lst (Ce.raw 32)))))))))))))))))).p l):=Ce.mapP_eq _ _ _;have hD:∀ x,Ce.certC.p l=.err x→Ce.certD l=.err x:=fun x h=>by
    show (Ce.certC.p l).bind _=_;rw [h];rfl
  (refine q0b<|q0a ?_);refine q0z ?_;intro g2 w2 B2 hg2 E2 hs2;have hpl:=he.lt;have D2:DSt N p w w2 l:=⟨E2.row _,he.ext E2⟩;have B2l:=q2x B2;(refine q0c<|tn<|q0b<|q0a<|m_P rfl<|m_P rfl ?_);refine Ls (q1u (vf:=[ptr p]) (vc:=[]) rfl rfl) ?_;refine q6s (delB (q1y _) numR_len 69 #[ptr p] #[] N p Ce.byteC.p l w2 (dfB N p) D2.d) rfl ?_ ?_
  · exact fun x w3 hg3 hS=>⟨rfl,DecR.err (D2.err hg3) (hD _ (h0.trans (Ce.seq_err (c:=Ce.lst Ce.byteC) hS _)))⟩
  intro q r3 y3 w3 hg3 hS3 hy3 e3;have h3:=h0.trans (Ce.seq_got (c:=Ce.lst Ce.byteC) hS3 _);have hq8:=lstB_lt he.b hS3;have D3:=D2.call hg3 e3;have hs3:=hg3.size;have B3:=B2.grown hg3 (by intro h;cases h;omega);obtain ⟨v3,rfl⟩:=q2f hy3;have c3:=(q1j (by decide) (q1y _)).one hy3 v3 (List.mem_singleton.2 rfl);obtain ⟨lo,hi,_,R3⟩:=slR_rowNums hy3;(refine Ls (X_toStr rfl R3) ?_);obtain ⟨qb,hqb⟩:∃ qb,qb=strB q:=⟨_,rfl⟩;have hq:q=sb qb:=by rw [hqb,z1t hq8]
  rw [← hqb];refine Ls (q1x (r:=[(0,.tmp 10)]) (Parts.cons (c:=[.string qb]) (z:=[.string ByteArray.empty]) rfl rfl rfl rfl (Parts.nil _))) ?_;refine q0z ?_;intro gc w4 B4 hg4 E4 hs4;have D4:=D3.ext E4;have hA4:CerAt (Nw w g2 gc w4) w4 ⟨q,0,List.replicate 32 0,0,0,0,0,[],[],[],[],[],(0,0),[],[],[],[]⟩ qb (.slice none 0 0) (.slice none 0 0) (.slice none 0 0) (.slice none 0 0) (.slice none 0 0) (.slice none 0 0) (.slice none 0 0) (.slice none 0 0) (.slice none 0 0):=⟨hq,q1n,q1n,q1n,q1n,q1n,q1n,q1n,q1n,q1n⟩;refine q0m (l:=dC (.string qb) (.int .i64 0) (ints .u8 (List.replicate 32 0)) [.int .i64 0,.int .i64 0,.int .i64 0,.int .i64 0,.slice none 0 0,.slice none 0 0,.slice none 0 0,.slice none 0 0,.slice none 0 0,.int .u64 0,.int .u64 0,.slice none 0 0,.slice none 0 0,.slice none 0 0,.slice none 0 0]) rfl rfl rfl hA4.one B4 rfl ?_;intro w5 B5 hg5 hs5;have D5:=D4.set he hg5 (by omega);have B25:=(B3.ext E4).grown hg5 (by intro h;cases h;omega);(refine q0c<|tn<|q0b<|q0a<|m_P rfl ?_);refine q6s (dintR N p r3 w5 D5.d) rfl ?_ ?_
  · exact fun x w6 hg6 hS=>⟨rfl,DecR.err (D5.err hg6) (hD _ (h3.trans (Ce.seq_err hS _)))⟩
  intro lg r6 y6 w6 hg6 hS6 hy6 e6;have h6:=h3.trans (Ce.seq_got hS6 _);have D6:=D5.call hg6 e6;obtain ⟨rfl,hlg⟩:=hy6;have hs6:=hg6.size;have B6:=B5.grown hg6 (by intro h;cases h;omega);have B26:=B25.grown hg6 (by intro h;cases h;omega);(refine Ls (q0g rfl) ?_);refine q1a (v:=.int .i64 (lg:Nat)) rfl rfl rfl B6 (by rw [q2g rfl];decide) ?_;intro w7 B7 hg7 hs7;have D7:=D6.set he hg7 (by omega);have B27:=B26.grown hg7 (by intro h;cases h;omega);have B7:Blk w7 gc 43 (dC (.string qb) (.int .i64 (lg:Nat)) (ints .u8 (List.replicate 32 0)) [.int .i64 0,.int .i64 0,.int .i64 0,.int .i64 0,.slice none 0 0,.slice none 0 0,.slice none 0 0,.slice none 0 0,.slice none 0 0,.int .u64 0,.int .u64 0,.slice none 0 0,.slice none 0 0,.slice none 0 0,.slice none 0 0]):=B7;(refine q0c<|tn<|q0b<|q0a<|m_P rfl ?_);refine q6s (ddigest N p r6 w7 D7.d) rfl ?_ ?_
  · exact fun x w8 hg8 hS=>⟨rfl,DecR.err (D7.err hg8) (hD _ (h6.trans (Ce.seq_err hS _)))⟩
  intro root r8 y8 w8 hg8 hS8 hy8 e8;have h8:=h6.trans (Ce.seq_got hS8 _);have D8:=D7.call hg8 e8;obtain ⟨rfl,hroot⟩:=hy8;have hs8:=hg8.size;have hrl:(ints .u8 root).length=32:=by rw [q0t,hroot]
  have B8:=B7.grown hg8 (by intro h;cases h;omega);have B28:=B27.grown hg8 (by intro h;cases h;omega);(refine Ls (q0g rfl) ?_);refine q4h (size:=32) (l:=ints .u8 root) rfl rfl hrl q0w B8 (by rw [q2g rfl];decide) ?_;intro w9 B9 hg9 hs9;have D9:=D8.set he hg9 (by omega);have B29:=B28.grown hg9 (by intro h;cases h;omega);have B9:Blk w9 gc 43 (dC (.string qb) (.int .i64 (lg:Nat)) (ints .u8 root) [.int .i64 0,.int .i64 0,.int .i64 0,.int .i64 0,.slice none 0 0,.slice none 0 0,.slice none 0 0,.slice none 0 0,.slice none 0 0,.int .u64 0,.int .u64 0,.slice none 0 0,.slice none 0 0,.slice none 0 0,.slice none 0 0]):=(congrArg (Blk w9 gc 43) (dC_root (q:=.string qb) (lg:=.int .i64 (lg:Nat)) (root:=ints .u8 (List.replicate 32 0)) (l:=ints .u8 root) (t:=[.int .i64 0,.int .i64 0,.int .i64 0,.int .i64 0,.slice none 0 0,.slice none 0 0,.slice none 0 0,.slice none 0 0,.slice none 0 0,.int .u64 0,.int .u64 0,.slice none 0 0,.slice none 0 0,.slice none 0 0,.slice none 0 0]) rfl)).mp B9;(refine q0c<|tn<|q0b<|q0b<|q0a<|Ls (q0g rfl)<|Ls (q0g rfl)<|Ls (q0g rfl)<|Ls (q0g rfl)<|Ls (q0g rfl)<|Ls (q0g rfl)<|Ls (q0g rfl)<|Ls (q0g rfl) ?_);refine Ls (q6g (z:=[.pointer none]) (zs':=[[.pointer (some ⟨gc,34,none⟩)],[.pointer (some ⟨gc,35,none⟩)],[.pointer (some ⟨gc,36,none⟩)],[.pointer (some ⟨gc,37,none⟩)]]) (cs:=[.pointer (some ⟨gc,34,none⟩),.pointer (some ⟨gc,35,none⟩),.pointer (some ⟨gc,36,none⟩),.pointer (some ⟨gc,37,none⟩)]) (len:=4) ?_ rfl rfl) ?_
  · repeat (first | exact Parts.nil _ | refine Parts.cons rfl rfl rfl rfl ?_)
  obtain ⟨cs,hcs⟩:∃ cs:List Value,cs=[.pointer (some ⟨gc,34,none⟩),.pointer (some ⟨gc,35,none⟩),.pointer (some ⟨gc,36,none⟩),.pointer (some ⟨gc,37,none⟩)]:=⟨_,rfl⟩;rw [← hcs];have E10:Ext w9 (w9.alloc (.cells cs.toArray 131)):=q1m _ _;have B10:Blk (w9.alloc (.cells cs.toArray 131)) w9.heap.size 131 cs:=Blk.new _ _ _;have D10:=D9.ext E10;have hs10:=E10.size;have Bc10:=B9.ext E10;have B210:=B29.ext E10;generalize w9.alloc (.cells cs.toArray 131)=w10 at *;obtain ⟨g10,hg10⟩:∃ g,g=w9.heap.size:=⟨_,rfl⟩;rw [← hg10] at B10 ⊢;have h10l:=q2x B10;(refine Ls (q0h rfl)<|m_I rfl<|q0c<|tn<|q0j ?_);refine q1k (fun q f w'=>∃ i shs r',q=4 - i∧i≤4∧f 0=.pointer (some ⟨p,0,none⟩)∧f 2=.pointer (some ⟨g2,0,none⟩)∧f 3=.pointer (some ⟨gc,0,none⟩)∧f 26=.slice (some ⟨g10,0,none⟩) 4 4∧f 27=.int .i64 4∧f 28=.int .i64 (i:Nat)∧shs.length=i∧(∀ x∈shs,x < 4294967296)∧Blk w' gc 43 (dC (.string qb) (.int .i64 (lg:Nat)) (ints .u8 root) (ints .i64 shs++(List.replicate (4 - i) (.int .i64 0)++[.slice none 0 0,.slice none 0 0,.slice none 0 0,.slice none 0 0,.slice none 0 0,.int .u64 0,.int .u64 0,.slice none 0 0,.slice none 0 0,.slice none 0 0,.slice none 0 0])))∧Blk w' g10 131 cs∧(∃ z2,z2.length=49∧Blk w' g2 43 z2)∧DSt N p w w' r'∧w10.heap.size≤w'.heap.size∧Ce.rep (Ce.num 4) 4 r8=Ce.Res.app shs (Ce.rep (Ce.num 4) (4 - i) r')) 4 ?_ ?_
  · exact ⟨0,[],r8,rfl,by omega,rfl,rfl,rfl,rfl,rfl,rfl,rfl,(fun _ h=>by cases h),Bc10,B10,⟨_,rfl,B210⟩,D10,Nat.le_refl _,(Ce.Res.app_nil _).symm⟩
  · rintro q' f w11 ⟨i,shs,r11,rfl,hi,f0,f2,f3,f26,f27,f28,hsh,hsh4,B11,Bp11,⟨z2,hz2,B211⟩,D11,hs11,hdec⟩;rw [fold f0,fold f2,fold f3,fold f26,fold f27,fold f28];(refine q0b<|q0a<|Ls (q1w rfl rfl)<|q0c<|tn<|q0b ?_);refine q1d rfl (fun h=>?_) (fun h=>?_)
    · have hi':i < 4:=(by omega);have hci:cs[i]?=some (.pointer (some ⟨gc,34+i,none⟩)):=by
        rw [hcs];match i,hi' with
        | 0,_=>rfl
        | 1,_=>rfl
        | 2,_=>rfl
        | 3,_=>rfl
      rw [show 4 - i=(4 - (i+1))+1 by omega] at hdec B11;(refine q0o<|tn<|q0b<|q0j<|q0b<|q0a<|Ls (q0n rfl rfl (by omega))<|Ls (q2l rfl (Bp11.range (o:=0) fun j u h=>by rw [Nat.zero_add];exact h) (j:=i) (by omega) hci)<|a_P rfl<|q0c<|tn<|q0a<|m_P rfl<|m_P rfl ?_);refine q6s (dintR N p r11 w11 D11.d) rfl ?_ ?_
      · intro x w12 hg12 hS;refine ⟨rfl,DecR.err (D11.err hg12) (hD _ (h8.trans ((Ce.seq4 _).trans ?_)))⟩;rw [hdec,Ce.rep_err (show Ce.num 4 r11=_ from hS)];rfl
      intro x r12 y12 w12 hg12 hS12 hy12 e12;have D12:=D11.call hg12 e12;obtain ⟨rfl,hx4⟩:=hy12;rw [Ce.rep_got (show Ce.num 4 r11=_ from hS12),Ce.Res.app_app] at hdec;have hs12:=hg12.size;have B12:=B11.grown hg12 (by intro h;cases h;omega);have Bp12:=Bp11.grown hg12 (by intro h;cases h;omega);have B212:=B211.grown hg12 (by intro h;cases h;omega);(refine Ls (q1l rfl) ?_);refine q1a (v:=.int .i64 (x:Nat)) rfl rfl rfl B12 (by rw [q2g hrl];simp only [List.length_append,q0t,List.length_replicate,List.length_cons,List.length_nil];omega) ?_;intro w13 B13 hg13 hs13;have D13:=D12.set he hg13 (by omega);have Bp13:=Bp12.grown hg13 (by intro h;cases h;omega);have B213:=B212.grown hg13 (by intro h;cases h;omega);rw [q4i hrl,List.replicate_succ,List.cons_append,set_mid (by rw [q0t,hsh])] at B13;(refine q0c<|bn<|tn<|q0a<|Ls (q1e rfl rfl (by omega))<|m_I rfl<|q0c<|tn ?_);refine ⟨4 - (i+1),by omega,i+1,shs++[x],r12,rfl,by omega,rfl,rfl,rfl,rfl,rfl,rfl,by rw [List.length_append,hsh];rfl,?_,?_,Bp13,⟨z2,hz2,B213⟩,D13,by omega,hdec⟩
      · intro z hz;rcases List.mem_append.1 hz with hz | hz
        · exact hsh4 z hz
        · rw [List.mem_singleton.1 hz];exact hx4
      · rw [q2i,List.append_assoc];exact B13
    · obtain rfl:i=4:=(by omega);obtain ⟨sa,sbb,sc,sd,rfl⟩:∃ a b c d,shs=[a,b,c,d]:=by
        match shs,hsh with
        | [a,b,c,d],_=>exact ⟨a,b,c,d,rfl⟩
      have hsR:=hsh4 sa (by simp);have hsC:=hsh4 sbb (by simp);have hsB:=hsh4 sc (by simp);have hsT:=hsh4 sd (by simp);have h20:=h8.trans ((Ce.seq4 _).trans (congrArg (fun z=>Ce.Res.bind z _) (hdec.trans (show _=Ce.Res.got [sa,sbb,sc,sd] r11 from rfl))));have h20:Ce.certC.p l=Ce.Res.map (fun b=>Ce.ofT (q,lg,root,sa,sbb,sc,sd,b)) (((Ce.lst (Ce.numC 8)).seq ((Ce.lst Ce.roundC).seq ((Ce.lst Ce.lpC).seq ((Ce.lst Ce.lpC).seq ((Ce.lst Ce.roundC).seq (Ce.extC.seq (Ce.roundC.seq (Ce.roundC.seq ((Ce.lst (Ce.lst Ce.wordC)).seq (Ce.lst (Ce.raw 32))))))))))).p r11):=h20;have B20:Blk w11 gc 43 (dC (.string qb) (.int .i64 (lg:Nat)) (ints .u8 root) [.int .i64 (sa:Nat),.int .i64 (sbb:Nat),.int .i64 (sc:Nat),.int .i64 (sd:Nat),.slice none 0 0,.slice none 0 0,.slice none 0 0,.slice none 0 0,.slice none 0 0,.int .u64 0,.int .u64 0,.slice none 0 0,.slice none 0 0,.slice none 0 0,.slice none 0 0]):=B11;have hA20:CerAt (Nw w g2 gc w11) w11 ⟨q,lg,root,sa,sbb,sc,sd,[],[],[],[],[],(0,0),[],[],[],[]⟩ qb (.slice none 0 0) (.slice none 0 0) (.slice none 0 0) (.slice none 0 0) (.slice none 0 0) (.slice none 0 0) (.slice none 0 0) (.slice none 0 0) (.slice none 0 0):=⟨hq,q1n,q1n,q1n,q1n,q1n,q1n,q1n,q1n,q1n⟩;clear B11 h8 hdec;(refine q1b<|te<|te<|bx<|tn<|q0b<|q0a<|m_P rfl<|m_P rfl ?_);refine Ls (q1u (vf:=[ptr p]) (vc:=[]) rfl rfl) ?_;refine q6s (delI q2r sumR_len 73 #[ptr p] #[] N p (Ce.numC 8).p r11 w11 (dfI N p) D11.d) rfl ?_ ?_
      · exact fun x w' hg hS=>⟨rfl,DecR.err (D11.err hg) (hD _ (h20.trans (Ce.seq_err (c:=(Ce.lst (Ce.numC 8))) hS _)))⟩
      intro x21 r21 y21 wa21 hga21 hS21 hy21 e21;have h21:Ce.certC.p l=Ce.Res.map (fun b=>Ce.ofT (q,lg,root,sa,sbb,sc,sd,x21,b)) (((Ce.lst Ce.roundC).seq ((Ce.lst Ce.lpC).seq ((Ce.lst Ce.lpC).seq ((Ce.lst Ce.roundC).seq (Ce.extC.seq (Ce.roundC.seq (Ce.roundC.seq ((Ce.lst (Ce.lst Ce.wordC)).seq (Ce.lst (Ce.raw 32)))))))))).p r21):=h20.trans (Ce.seq_got (c:=(Ce.lst (Ce.numC 8))) hS21 _);have Da21:=D11.call hga21 e21;have hsa21:=hga21.size;have Ba21:=B20.grown hga21 (by intro h;cases h;omega);have B2a21:=B211.grown hga21 (by intro h;cases h;omega);have hAa21:=hA20.nw hga21 (.inl (by omega));obtain ⟨v21,rfl⟩:=q2f hy21;have c21:=(q1j (by decide) q2r).one hy21 v21 (List.mem_singleton.2 rfl);have hv21:=(q1j (by decide) q2r).nw0 (w:=w) (g:=g2) (g':=gc) hy21 (by omega) (.inl (by omega)) (.inl (by omega));(refine Ls (q0g rfl) ?_);refine q1a (v:=v21) rfl rfl c21 Ba21 (by rw [q2g hrl];exact Nat.le_of_ble_eq_true rfl) ?_;intro w21 Bx21 hg21 hs21;have D21:=Da21.set he hg21 (by omega);have B221:=B2a21.grown hg21 (by intro h;cases h;omega);have hA21:=hAa21.nw hg21 (.inr (.inr rfl));have B21:Blk w21 gc 43 (dC (.string qb) (.int .i64 (lg:Nat)) (ints .u8 root) [.int .i64 (sa:Nat),.int .i64 (sbb:Nat),.int .i64 (sc:Nat),.int .i64 (sd:Nat),v21,.slice none 0 0,.slice none 0 0,.slice none 0 0,.slice none 0 0,.int .u64 0,.int .u64 0,.slice none 0 0,.slice none 0 0,.slice none 0 0,.slice none 0 0]):=(congrArg (Blk w21 gc 43) (q4i (q:=.string qb) (lg:=.int .i64 (lg:Nat)) (root:=ints .u8 root) (v:=v21) (t:=[.int .i64 (sa:Nat),.int .i64 (sbb:Nat),.int .i64 (sc:Nat),.int .i64 (sd:Nat),.slice none 0 0,.slice none 0 0,.slice none 0 0,.slice none 0 0,.slice none 0 0,.int .u64 0,.int .u64 0,.slice none 0 0,.slice none 0 0,.slice none 0 0,.slice none 0 0]) hrl 4)).mp Bx21;have hv21:=(q1j (by decide) q2r).nw hv21 hg21 (.inr (.inr rfl));have hA21:CerAt (Nw w g2 gc w21) w21 ⟨q,lg,root,sa,sbb,sc,sd,x21,[],[],[],[],(0,0),[],[],[],[]⟩ qb v21 (.slice none 0 0) (.slice none 0 0) (.slice none 0 0) (.slice none 0 0) (.slice none 0 0) (.slice none 0 0) (.slice none 0 0) (.slice none 0 0):=⟨hA21.q,hv21,hA21.p1,hA21.p2,hA21.p3,hA21.b1,hA21.o1,hA21.o2,hA21.o3,hA21.o4⟩;clear B20 Ba21 B211 B2a21 hAa21 Da21 Bx21;(refine q0c<|tn<|q0b<|q0a<|m_P rfl<|m_P rfl ?_);refine Ls (q1u (vf:=[ptr p]) (vc:=[]) rfl rfl) ?_;refine q6s (delR q0y z1s 75 #[ptr p] #[] N p Ce.roundC.p r21 w21 (dfR N p) D21.d) rfl ?_ ?_
      · exact fun x w' hg hS=>⟨rfl,DecR.err (D21.err hg) (hD _ (h21.trans (Ce.seq_err (c:=(Ce.lst Ce.roundC)) hS _)))⟩
      intro x22 r22 y22 wa22 hga22 hS22 hy22 e22;have h22:Ce.certC.p l=Ce.Res.map (fun b=>Ce.ofT (q,lg,root,sa,sbb,sc,sd,x21,x22,b)) (((Ce.lst Ce.lpC).seq ((Ce.lst Ce.lpC).seq ((Ce.lst Ce.roundC).seq (Ce.extC.seq (Ce.roundC.seq (Ce.roundC.seq ((Ce.lst (Ce.lst Ce.wordC)).seq (Ce.lst (Ce.raw 32))))))))).p r22):=h21.trans (Ce.seq_got (c:=(Ce.lst Ce.roundC)) hS22 _);have Da22:=D21.call hga22 e22;have hsa22:=hga22.size;have Ba22:=B21.grown hga22 (by intro h;cases h;omega);have B2a22:=B221.grown hga22 (by intro h;cases h;omega);have hAa22:=hA21.nw hga22 (.inl (by omega));obtain ⟨v22,rfl⟩:=q2f hy22;have c22:=q1i.one hy22 v22 (List.mem_singleton.2 rfl);have hv22:=q1i.nw0 (w:=w) (g:=g2) (g':=gc) hy22 (by omega) (.inl (by omega)) (.inl (by omega));(refine Ls (q0g rfl)<|Ls (q0g rfl) ?_);refine q1a (v:=v22) rfl rfl c22 Ba22 (by rw [q2g hrl];exact Nat.le_of_ble_eq_true rfl) ?_;intro w22 Bx22 hg22 hs22;have D22:=Da22.set he hg22 (by omega);have B222:=B2a22.grown hg22 (by intro h;cases h;omega);have hA22:=hAa22.nw hg22 (.inr (.inr rfl));have B22:Blk w22 gc 43 (dC (.string qb) (.int .i64 (lg:Nat)) (ints .u8 root) [.int .i64 (sa:Nat),.int .i64 (sbb:Nat),.int .i64 (sc:Nat),.int .i64 (sd:Nat),v21,v22,.slice none 0 0,.slice none 0 0,.slice none 0 0,.int .u64 0,.int .u64 0,.slice none 0 0,.slice none 0 0,.slice none 0 0,.slice none 0 0]):=(congrArg (Blk w22 gc 43) (q4i (q:=.string qb) (lg:=.int .i64 (lg:Nat)) (root:=ints .u8 root) (v:=v22) (t:=[.int .i64 (sa:Nat),.int .i64 (sbb:Nat),.int .i64 (sc:Nat),.int .i64 (sd:Nat),v21,.slice none 0 0,.slice none 0 0,.slice none 0 0,.slice none 0 0,.int .u64 0,.int .u64 0,.slice none 0 0,.slice none 0 0,.slice none 0 0,.slice none 0 0]) hrl 5)).mp Bx22;have hv22:=q1i.nw hv22 hg22 (.inr (.inr rfl));have hA22:CerAt (Nw w g2 gc w22) w22 ⟨q,lg,root,sa,sbb,sc,sd,x21,x22,[],[],[],(0,0),[],[],[],[]⟩ qb v21 v22 (.slice none 0 0) (.slice none 0 0) (.slice none 0 0) (.slice none 0 0) (.slice none 0 0) (.slice none 0 0) (.slice none 0 0):=⟨hA22.q,hA22.s1,hv22,hA22.p2,hA22.p3,hA22.b1,hA22.o1,hA22.o2,hA22.o3,hA22.o4⟩;clear B21 Ba22 B221 B2a22 hAa22 Da22 Bx22 hA21;(refine q0c<|tn<|q0b<|q0a<|m_P rfl<|m_P rfl ?_);refine Ls (q1u (vf:=[ptr p]) (vc:=[]) rfl rfl) ?_;refine q6s (delL q4v lpR_len 77 #[ptr p] #[] N p Ce.lpC.p r22 w22 (dfL N p) D22.d) rfl ?_ ?_
      · exact fun x w' hg hS=>⟨rfl,DecR.err (D22.err hg) (hD _ (h22.trans (Ce.seq_err (c:=(Ce.lst Ce.lpC)) hS _)))⟩
      intro x23 r23 y23 wa23 hga23 hS23 hy23 e23;have h23:Ce.certC.p l=Ce.Res.map (fun b=>Ce.ofT (q,lg,root,sa,sbb,sc,sd,x21,x22,x23,b)) (((Ce.lst Ce.lpC).seq ((Ce.lst Ce.roundC).seq (Ce.extC.seq (Ce.roundC.seq (Ce.roundC.seq ((Ce.lst (Ce.lst Ce.wordC)).seq (Ce.lst (Ce.raw 32)))))))).p r23):=h22.trans (Ce.seq_got (c:=(Ce.lst Ce.lpC)) hS23 _);have Da23:=D22.call hga23 e23;have hsa23:=hga23.size;have Ba23:=B22.grown hga23 (by intro h;cases h;omega);have B2a23:=B222.grown hga23 (by intro h;cases h;omega);have hAa23:=hA22.nw hga23 (.inl (by omega));obtain ⟨v23,rfl⟩:=q2f hy23;have c23:=q1t.one hy23 v23 (List.mem_singleton.2 rfl);have hv23:=q1t.nw0 (w:=w) (g:=g2) (g':=gc) hy23 (by omega) (.inl (by omega)) (.inl (by omega));(refine Ls (q0g rfl)<|Ls (q0g rfl) ?_);refine q1a (v:=v23) rfl rfl c23 Ba23 (by rw [q2g hrl];exact Nat.le_of_ble_eq_true rfl) ?_;intro w23 Bx23 hg23 hs23;have D23:=Da23.set he hg23 (by omega);have B223:=B2a23.grown hg23 (by intro h;cases h;omega);have hA23:=hAa23.nw hg23 (.inr (.inr rfl));have B23:Blk w23 gc 43 (dC (.string qb) (.int .i64 (lg:Nat)) (ints .u8 root) [.int .i64 (sa:Nat),.int .i64 (sbb:Nat),.int .i64 (sc:Nat),.int .i64 (sd:Nat),v21,v22,v23,.slice none 0 0,.slice none 0 0,.int .u64 0,.int .u64 0,.slice none 0 0,.slice none 0 0,.slice none 0 0,.slice none 0 0]):=(congrArg (Blk w23 gc 43) (q4i (q:=.string qb) (lg:=.int .i64 (lg:Nat)) (root:=ints .u8 root) (v:=v23) (t:=[.int .i64 (sa:Nat),.int .i64 (sbb:Nat),.int .i64 (sc:Nat),.int .i64 (sd:Nat),v21,v22,.slice none 0 0,.slice none 0 0,.slice none 0 0,.int .u64 0,.int .u64 0,.slice none 0 0,.slice none 0 0,.slice none 0 0,.slice none 0 0]) hrl 6)).mp Bx23;have hv23:=q1t.nw hv23 hg23 (.inr (.inr rfl));have hA23:CerAt (Nw w g2 gc w23) w23 ⟨q,lg,root,sa,sbb,sc,sd,x21,x22,x23,[],[],(0,0),[],[],[],[]⟩ qb v21 v22 v23 (.slice none 0 0) (.slice none 0 0) (.slice none 0 0) (.slice none 0 0) (.slice none 0 0) (.slice none 0 0):=⟨hA23.q,hA23.s1,hA23.p1,hv23,hA23.p3,hA23.b1,hA23.o1,hA23.o2,hA23.o3,hA23.o4⟩;clear B22 Ba23 B222 B2a23 hAa23 Da23 Bx23 hA22;(refine q0c<|tn<|q0b<|q0a<|m_P rfl<|m_P rfl ?_);refine Ls (q1u (vf:=[ptr p]) (vc:=[]) rfl rfl) ?_;refine q6s (delL q4v lpR_len 77 #[ptr p] #[] N p Ce.lpC.p r23 w23 (dfL N p) D23.d) rfl ?_ ?_
      · exact fun x w' hg hS=>⟨rfl,DecR.err (D23.err hg) (hD _ (h23.trans (Ce.seq_err (c:=(Ce.lst Ce.lpC)) hS _)))⟩
      intro x24 r24 y24 wa24 hga24 hS24 hy24 e24;have h24:Ce.certC.p l=Ce.Res.map (fun b=>Ce.ofT (q,lg,root,sa,sbb,sc,sd,x21,x22,x23,x24,b)) (((Ce.lst Ce.roundC).seq (Ce.extC.seq (Ce.roundC.seq (Ce.roundC.seq ((Ce.lst (Ce.lst Ce.wordC)).seq (Ce.lst (Ce.raw 32))))))).p r24):=h23.trans (Ce.seq_got (c:=(Ce.lst Ce.lpC)) hS24 _);have Da24:=D23.call hga24 e24;have hsa24:=hga24.size;have Ba24:=B23.grown hga24 (by intro h;cases h;omega);have B2a24:=B223.grown hga24 (by intro h;cases h;omega);have hAa24:=hA23.nw hga24 (.inl (by omega));obtain ⟨v24,rfl⟩:=q2f hy24;have c24:=q1t.one hy24 v24 (List.mem_singleton.2 rfl);have hv24:=q1t.nw0 (w:=w) (g:=g2) (g':=gc) hy24 (by omega) (.inl (by omega)) (.inl (by omega));(refine Ls (q0g rfl)<|Ls (q0g rfl) ?_);refine q1a (v:=v24) rfl rfl c24 Ba24 (by rw [q2g hrl];exact Nat.le_of_ble_eq_true rfl) ?_;intro w24 Bx24 hg24 hs24;have D24:=Da24.set he hg24 (by omega);have B224:=B2a24.grown hg24 (by intro h;cases h;omega);have hA24:=hAa24.nw hg24 (.inr (.inr rfl));have B24:Blk w24 gc 43 (dC (.string qb) (.int .i64 (lg:Nat)) (ints .u8 root) [.int .i64 (sa:Nat),.int .i64 (sbb:Nat),.int .i64 (sc:Nat),.int .i64 (sd:Nat),v21,v22,v23,v24,.slice none 0 0,.int .u64 0,.int .u64 0,.slice none 0 0,.slice none 0 0,.slice none 0 0,.slice none 0 0]):=(congrArg (Blk w24 gc 43) (q4i (q:=.string qb) (lg:=.int .i64 (lg:Nat)) (root:=ints .u8 root) (v:=v24) (t:=[.int .i64 (sa:Nat),.int .i64 (sbb:Nat),.int .i64 (sc:Nat),.int .i64 (sd:Nat),v21,v22,v23,.slice none 0 0,.slice none 0 0,.int .u64 0,.int .u64 0,.slice none 0 0,.slice none 0 0,.slice none 0 0,.slice none 0 0]) hrl 7)).mp Bx24;have hv24:=q1t.nw hv24 hg24 (.inr (.inr rfl));have hA24:CerAt (Nw w g2 gc w24) w24 ⟨q,lg,root,sa,sbb,sc,sd,x21,x22,x23,x24,[],(0,0),[],[],[],[]⟩ qb v21 v22 v23 v24 (.slice none 0 0) (.slice none 0 0) (.slice none 0 0) (.slice none 0 0) (.slice none 0 0):=⟨hA24.q,hA24.s1,hA24.p1,hA24.p2,hv24,hA24.b1,hA24.o1,hA24.o2,hA24.o3,hA24.o4⟩;clear B23 Ba24 B223 B2a24 hAa24 Da24 Bx24 hA23;(refine q0c<|tn<|q0b<|q0a<|m_P rfl<|m_P rfl ?_);refine Ls (q1u (vf:=[ptr p]) (vc:=[]) rfl rfl) ?_;refine q6s (delR q0y z1s 75 #[ptr p] #[] N p Ce.roundC.p r24 w24 (dfR N p) D24.d) rfl ?_ ?_
      · exact fun x w' hg hS=>⟨rfl,DecR.err (D24.err hg) (hD _ (h24.trans (Ce.seq_err (c:=(Ce.lst Ce.roundC)) hS _)))⟩
      intro x25 r25 y25 wa25 hga25 hS25 hy25 e25;have h25:Ce.certC.p l=Ce.Res.map (fun b=>Ce.ofT (q,lg,root,sa,sbb,sc,sd,x21,x22,x23,x24,x25,b)) ((Ce.extC.seq (Ce.roundC.seq (Ce.roundC.seq ((Ce.lst (Ce.lst Ce.wordC)).seq (Ce.lst (Ce.raw 32)))))).p r25):=h24.trans (Ce.seq_got (c:=(Ce.lst Ce.roundC)) hS25 _);have Da25:=D24.call hga25 e25;have hsa25:=hga25.size;have Ba25:=B24.grown hga25 (by intro h;cases h;omega);have B2a25:=B224.grown hga25 (by intro h;cases h;omega);have hAa25:=hA24.nw hga25 (.inl (by omega));obtain ⟨v25,rfl⟩:=q2f hy25;have c25:=q1i.one hy25 v25 (List.mem_singleton.2 rfl);have hv25:=q1i.nw0 (w:=w) (g:=g2) (g':=gc) hy25 (by omega) (.inl (by omega)) (.inl (by omega));(refine Ls (q0g rfl) ?_);refine q1a (v:=v25) rfl rfl c25 Ba25 (by rw [q2g hrl];exact Nat.le_of_ble_eq_true rfl) ?_;intro w25 Bx25 hg25 hs25;have D25:=Da25.set he hg25 (by omega);have B225:=B2a25.grown hg25 (by intro h;cases h;omega);have hA25:=hAa25.nw hg25 (.inr (.inr rfl));have B25:Blk w25 gc 43 (dC (.string qb) (.int .i64 (lg:Nat)) (ints .u8 root) [.int .i64 (sa:Nat),.int .i64 (sbb:Nat),.int .i64 (sc:Nat),.int .i64 (sd:Nat),v21,v22,v23,v24,v25,.int .u64 0,.int .u64 0,.slice none 0 0,.slice none 0 0,.slice none 0 0,.slice none 0 0]):=(congrArg (Blk w25 gc 43) (q4i (q:=.string qb) (lg:=.int .i64 (lg:Nat)) (root:=ints .u8 root) (v:=v25) (t:=[.int .i64 (sa:Nat),.int .i64 (sbb:Nat),.int .i64 (sc:Nat),.int .i64 (sd:Nat),v21,v22,v23,v24,.slice none 0 0,.int .u64 0,.int .u64 0,.slice none 0 0,.slice none 0 0,.slice none 0 0,.slice none 0 0]) hrl 8)).mp Bx25;have hv25:=q1i.nw hv25 hg25 (.inr (.inr rfl));have hA25:CerAt (Nw w g2 gc w25) w25 ⟨q,lg,root,sa,sbb,sc,sd,x21,x22,x23,x24,x25,(0,0),[],[],[],[]⟩ qb v21 v22 v23 v24 v25 (.slice none 0 0) (.slice none 0 0) (.slice none 0 0) (.slice none 0 0):=⟨hA25.q,hA25.s1,hA25.p1,hA25.p2,hA25.p3,hv25,hA25.o1,hA25.o2,hA25.o3,hA25.o4⟩;clear B24 Ba25 B224 B2a25 hAa25 Da25 Bx25 hA24;(refine q0c<|tn<|q0b<|q0a<|m_P rfl ?_);refine q6s (dext N p r25 w25 D25.d) rfl ?_ ?_
      · exact fun x w' hg hS=>⟨rfl,DecR.err (D25.err hg) (hD _ (h25.trans (Ce.seq_err (c:=Ce.extC) hS _)))⟩
      intro x26 r26 y26 wa26 hga26 hS26 hy26 e26;have h26:Ce.certC.p l=Ce.Res.map (fun b=>Ce.ofT (q,lg,root,sa,sbb,sc,sd,x21,x22,x23,x24,x25,x26,b)) ((Ce.roundC.seq (Ce.roundC.seq ((Ce.lst (Ce.lst Ce.wordC)).seq (Ce.lst (Ce.raw 32))))).p r26):=h25.trans (Ce.seq_got (c:=Ce.extC) hS26 _);have Da26:=D25.call hga26 e26;have hsa26:=hga26.size;have Ba26:=B25.grown hga26 (by intro h;cases h;omega);have B2a26:=B225.grown hga26 (by intro h;cases h;omega);have hAa26:=hA25.nw hga26 (.inl (by omega));obtain rfl:y26=exC x26.1 x26.2:=hy26;(refine Ls (q0g rfl) ?_);refine q4h (size:=2) (l:=exC x26.1 x26.2) rfl rfl rfl q4t Ba26 (by rw [q2g hrl];exact Nat.le_of_ble_eq_true rfl) ?_;intro w26 Bx26 hg26 hs26;have D26:=Da26.set he hg26 (by omega);have B226:=B2a26.grown hg26 (by intro h;cases h;omega);have hA26:=hAa26.nw hg26 (.inr (.inr rfl));have B26:Blk w26 gc 43 (dC (.string qb) (.int .i64 (lg:Nat)) (ints .u8 root) [.int .i64 (sa:Nat),.int .i64 (sbb:Nat),.int .i64 (sc:Nat),.int .i64 (sd:Nat),v21,v22,v23,v24,v25,.int .u64 (x26.1:Nat),.int .u64 (x26.2:Nat),.slice none 0 0,.slice none 0 0,.slice none 0 0,.slice none 0 0]):=(congrArg (Blk w26 gc 43) (z0y (q:=.string qb) (lg:=.int .i64 (lg:Nat)) (root:=ints .u8 root) (l:=exC x26.1 x26.2) (t:=[.int .i64 (sa:Nat),.int .i64 (sbb:Nat),.int .i64 (sc:Nat),.int .i64 (sd:Nat),v21,v22,v23,v24,v25,.int .u64 0,.int .u64 0,.slice none 0 0,.slice none 0 0,.slice none 0 0,.slice none 0 0]) hrl 9 2)).mp Bx26;have hA26:CerAt (Nw w g2 gc w26) w26 ⟨q,lg,root,sa,sbb,sc,sd,x21,x22,x23,x24,x25,x26,[],[],[],[]⟩ qb v21 v22 v23 v24 v25 (.slice none 0 0) (.slice none 0 0) (.slice none 0 0) (.slice none 0 0):=⟨hA26.q,hA26.s1,hA26.p1,hA26.p2,hA26.p3,hA26.b1,hA26.o1,hA26.o2,hA26.o3,hA26.o4⟩;clear B25 Ba26 B225 B2a26 hAa26 Da26 Bx26 hA25;(refine q0c<|tn<|q0b<|q0a<|m_P rfl<|m_P rfl ?_);refine Ls (q1u (vf:=[ptr p]) (vc:=[]) rfl rfl) ?_;refine q6s (delE q3p z2a 78 #[ptr p] #[] N p Ce.extC.p r26 w26 (dfE N p) D26.d) rfl ?_ ?_
      · exact fun x w' hg hS=>⟨rfl,DecR.err (D26.err hg) (hD _ (h26.trans (Ce.seq_err (c:=Ce.roundC) hS _)))⟩
      intro x27 r27 y27 wa27 hga27 hS27 hy27 e27;have h27:Ce.certC.p l=Ce.Res.map (fun b=>Ce.ofT (q,lg,root,sa,sbb,sc,sd,x21,x22,x23,x24,x25,x26,x27,b)) ((Ce.roundC.seq ((Ce.lst (Ce.lst Ce.wordC)).seq (Ce.lst (Ce.raw 32)))).p r27):=h26.trans (Ce.seq_got (c:=Ce.roundC) hS27 _);have Da27:=D26.call hga27 e27;have hsa27:=hga27.size;have Ba27:=B26.grown hga27 (by intro h;cases h;omega);have B2a27:=B226.grown hga27 (by intro h;cases h;omega);have hAa27:=hA26.nw hga27 (.inl (by omega));obtain ⟨v27,rfl⟩:=q2f hy27;have c27:=q0y.one hy27 v27 (List.mem_singleton.2 rfl);have hv27:=q0y.nw0 (w:=w) (g:=g2) (g':=gc) hy27 (by omega) (.inl (by omega)) (.inl (by omega));(refine Ls (q0g rfl)<|Ls (q0g rfl) ?_);refine q1a (v:=v27) rfl rfl c27 Ba27 (by rw [q2g hrl];exact Nat.le_of_ble_eq_true rfl) ?_;intro w27 Bx27 hg27 hs27;have D27:=Da27.set he hg27 (by omega);have B227:=B2a27.grown hg27 (by intro h;cases h;omega);have hA27:=hAa27.nw hg27 (.inr (.inr rfl));have B27:Blk w27 gc 43 (dC (.string qb) (.int .i64 (lg:Nat)) (ints .u8 root) [.int .i64 (sa:Nat),.int .i64 (sbb:Nat),.int .i64 (sc:Nat),.int .i64 (sd:Nat),v21,v22,v23,v24,v25,.int .u64 (x26.1:Nat),.int .u64 (x26.2:Nat),v27,.slice none 0 0,.slice none 0 0,.slice none 0 0]):=(congrArg (Blk w27 gc 43) (q4i (q:=.string qb) (lg:=.int .i64 (lg:Nat)) (root:=ints .u8 root) (v:=v27) (t:=[.int .i64 (sa:Nat),.int .i64 (sbb:Nat),.int .i64 (sc:Nat),.int .i64 (sd:Nat),v21,v22,v23,v24,v25,.int .u64 (x26.1:Nat),.int .u64 (x26.2:Nat),.slice none 0 0,.slice none 0 0,.slice none 0 0,.slice none 0 0]) hrl 11)).mp Bx27;have hv27:=q0y.nw hv27 hg27 (.inr (.inr rfl));have hA27:CerAt (Nw w g2 gc w27) w27 ⟨q,lg,root,sa,sbb,sc,sd,x21,x22,x23,x24,x25,x26,x27,[],[],[]⟩ qb v21 v22 v23 v24 v25 v27 (.slice none 0 0) (.slice none 0 0) (.slice none 0 0):=⟨hA27.q,hA27.s1,hA27.p1,hA27.p2,hA27.p3,hA27.b1,hv27,hA27.o2,hA27.o3,hA27.o4⟩;clear B26 Ba27 B226 B2a27 hAa27 Da27 Bx27 hA26;(refine q0c<|tn<|q0b<|q0a<|m_P rfl<|m_P rfl ?_);refine Ls (q1u (vf:=[ptr p]) (vc:=[]) rfl rfl) ?_;refine q6s (delE q3p z2a 78 #[ptr p] #[] N p Ce.extC.p r27 w27 (dfE N p) D27.d) rfl ?_ ?_
      · exact fun x w' hg hS=>⟨rfl,DecR.err (D27.err hg) (hD _ (h27.trans (Ce.seq_err (c:=Ce.roundC) hS _)))⟩
      intro x28 r28 y28 wa28 hga28 hS28 hy28 e28;have h28:Ce.certC.p l=Ce.Res.map (fun b=>Ce.ofT (q,lg,root,sa,sbb,sc,sd,x21,x22,x23,x24,x25,x26,x27,x28,b)) (((Ce.lst (Ce.lst Ce.wordC)).seq (Ce.lst (Ce.raw 32))).p r28):=h27.trans (Ce.seq_got (c:=Ce.roundC) hS28 _);have Da28:=D27.call hga28 e28;have hsa28:=hga28.size;have Ba28:=B27.grown hga28 (by intro h;cases h;omega);have B2a28:=B227.grown hga28 (by intro h;cases h;omega);have hAa28:=hA27.nw hga28 (.inl (by omega));obtain ⟨v28,rfl⟩:=q2f hy28;have c28:=q0y.one hy28 v28 (List.mem_singleton.2 rfl);have hv28:=q0y.nw0 (w:=w) (g:=g2) (g':=gc) hy28 (by omega) (.inl (by omega)) (.inl (by omega));(refine Ls (q0g rfl)<|Ls (q0g rfl) ?_);refine q1a (v:=v28) rfl rfl c28 Ba28 (by rw [q2g hrl];exact Nat.le_of_ble_eq_true rfl) ?_;intro w28 Bx28 hg28 hs28;have D28:=Da28.set he hg28 (by omega);have B228:=B2a28.grown hg28 (by intro h;cases h;omega);have hA28:=hAa28.nw hg28 (.inr (.inr rfl));have B28:Blk w28 gc 43 (dC (.string qb) (.int .i64 (lg:Nat)) (ints .u8 root) [.int .i64 (sa:Nat),.int .i64 (sbb:Nat),.int .i64 (sc:Nat),.int .i64 (sd:Nat),v21,v22,v23,v24,v25,.int .u64 (x26.1:Nat),.int .u64 (x26.2:Nat),v27,v28,.slice none 0 0,.slice none 0 0]):=(congrArg (Blk w28 gc 43) (q4i (q:=.string qb) (lg:=.int .i64 (lg:Nat)) (root:=ints .u8 root) (v:=v28) (t:=[.int .i64 (sa:Nat),.int .i64 (sbb:Nat),.int .i64 (sc:Nat),.int .i64 (sd:Nat),v21,v22,v23,v24,v25,.int .u64 (x26.1:Nat),.int .u64 (x26.2:Nat),v27,.slice none 0 0,.slice none 0 0,.slice none 0 0]) hrl 12)).mp Bx28;have hv28:=q0y.nw hv28 hg28 (.inr (.inr rfl));have hA28:CerAt (Nw w g2 gc w28) w28 ⟨q,lg,root,sa,sbb,sc,sd,x21,x22,x23,x24,x25,x26,x27,x28,[],[]⟩ qb v21 v22 v23 v24 v25 v27 v28 (.slice none 0 0) (.slice none 0 0):=⟨hA28.q,hA28.s1,hA28.p1,hA28.p2,hA28.p3,hA28.b1,hA28.o1,hv28,hA28.o3,hA28.o4⟩;clear B27 Ba28 B227 B2a28 hAa28 Da28 Bx28 hA27;(refine q0c<|tn<|q0b<|q0a<|m_P rfl<|m_P rfl ?_);refine Ls (q1u (vf:=[ptr p]) (vc:=[]) rfl rfl) ?_;refine q6s (delC (q1j (by decide) (q1y _)) z1s 81 #[ptr p] #[] N p (Ce.lst Ce.wordC).p r28 w28 (dfC N p) D28.d) rfl ?_ ?_
      · exact fun x w' hg hS=>⟨rfl,DecR.err (D28.err hg) (hD _ (h28.trans (Ce.seq_err (c:=(Ce.lst (Ce.lst Ce.wordC))) hS _)))⟩
      intro x29 r29 y29 wa29 hga29 hS29 hy29 e29;have h29:Ce.certC.p l=Ce.Res.map (fun b=>Ce.ofT (q,lg,root,sa,sbb,sc,sd,x21,x22,x23,x24,x25,x26,x27,x28,x29,b)) ((Ce.lst (Ce.raw 32)).p r29):=h28.trans (Ce.seq_got (c:=(Ce.lst (Ce.lst Ce.wordC))) hS29 _);have Da29:=D28.call hga29 e29;have hsa29:=hga29.size;have Ba29:=B28.grown hga29 (by intro h;cases h;omega);have B2a29:=B228.grown hga29 (by intro h;cases h;omega);have hAa29:=hA28.nw hga29 (.inl (by omega));obtain ⟨v29,rfl⟩:=q2f hy29;have c29:=q3u.one hy29 v29 (List.mem_singleton.2 rfl);have hv29:=q3u.nw0 (w:=w) (g:=g2) (g':=gc) hy29 (by omega) (.inl (by omega)) (.inl (by omega));(refine Ls (q0g rfl)<|Ls (q0g rfl) ?_);refine q1a (v:=v29) rfl rfl c29 Ba29 (by rw [q2g hrl];exact Nat.le_of_ble_eq_true rfl) ?_;intro w29 Bx29 hg29 hs29;have D29:=Da29.set he hg29 (by omega);have B229:=B2a29.grown hg29 (by intro h;cases h;omega);have hA29:=hAa29.nw hg29 (.inr (.inr rfl));have B29:Blk w29 gc 43 (dC (.string qb) (.int .i64 (lg:Nat)) (ints .u8 root) [.int .i64 (sa:Nat),.int .i64 (sbb:Nat),.int .i64 (sc:Nat),.int .i64 (sd:Nat),v21,v22,v23,v24,v25,.int .u64 (x26.1:Nat),.int .u64 (x26.2:Nat),v27,v28,v29,.slice none 0 0]):=(congrArg (Blk w29 gc 43) (q4i (q:=.string qb) (lg:=.int .i64 (lg:Nat)) (root:=ints .u8 root) (v:=v29) (t:=[.int .i64 (sa:Nat),.int .i64 (sbb:Nat),.int .i64 (sc:Nat),.int .i64 (sd:Nat),v21,v22,v23,v24,v25,.int .u64 (x26.1:Nat),.int .u64 (x26.2:Nat),v27,v28,.slice none 0 0,.slice none 0 0]) hrl 13)).mp Bx29;have hv29:=q3u.nw hv29 hg29 (.inr (.inr rfl));have hA29:CerAt (Nw w g2 gc w29) w29 ⟨q,lg,root,sa,sbb,sc,sd,x21,x22,x23,x24,x25,x26,x27,x28,x29,[]⟩ qb v21 v22 v23 v24 v25 v27 v28 v29 (.slice none 0 0):=⟨hA29.q,hA29.s1,hA29.p1,hA29.p2,hA29.p3,hA29.b1,hA29.o1,hA29.o2,hv29,hA29.o4⟩;clear B28 Ba29 B228 B2a29 hAa29 Da29 Bx29 hA28;(refine q0c<|tn<|q0b<|q0a<|m_P rfl<|m_P rfl ?_);refine Ls (q1u (vf:=[ptr p]) (vc:=[]) rfl rfl) ?_;refine q6s (delD (z0c 32) byR_len 71 #[ptr p] #[] N p (Ce.raw 32).p r29 w29 (dfD N p) D29.d) rfl ?_ ?_
      · exact fun x w' hg hS=>⟨rfl,DecR.err (D29.err hg) (hD _ (h29.trans (Ce.map_errR (c:=(Ce.lst (Ce.raw 32))) hS _)))⟩
      intro x30 r30 y30 wa30 hga30 hS30 hy30 e30;have h30:Ce.certC.p l=.got (Ce.ofT (q,lg,root,sa,sbb,sc,sd,x21,x22,x23,x24,x25,x26,x27,x28,x29,x30)) r30:=h29.trans (Ce.map_gotR (c:=(Ce.lst (Ce.raw 32))) hS30 _);have Da30:=D29.call hga30 e30;have hsa30:=hga30.size;have Ba30:=B29.grown hga30 (by intro h;cases h;omega);have B2a30:=B229.grown hga30 (by intro h;cases h;omega);have hAa30:=hA29.nw hga30 (.inl (by omega));obtain ⟨v30,rfl⟩:=q2f hy30;have c30:=q4n.one hy30 v30 (List.mem_singleton.2 rfl);have hv30:=q4n.nw0 (w:=w) (g:=g2) (g':=gc) hy30 (by omega) (.inl (by omega)) (.inl (by omega));(refine Ls (q0g rfl)<|Ls (q0g rfl)<|Ls (q0g rfl) ?_);refine q1a (v:=v30) rfl rfl c30 Ba30 (by rw [q2g hrl];exact Nat.le_of_ble_eq_true rfl) ?_;intro w30 Bx30 hg30 hs30;have D30:=Da30.set he hg30 (by omega);have B230:=B2a30.grown hg30 (by intro h;cases h;omega);have hA30:=hAa30.nw hg30 (.inr (.inr rfl));have B30:Blk w30 gc 43 (dC (.string qb) (.int .i64 (lg:Nat)) (ints .u8 root) [.int .i64 (sa:Nat),.int .i64 (sbb:Nat),.int .i64 (sc:Nat),.int .i64 (sd:Nat),v21,v22,v23,v24,v25,.int .u64 (x26.1:Nat),.int .u64 (x26.2:Nat),v27,v28,v29,v30]):=(congrArg (Blk w30 gc 43) (q4i (q:=.string qb) (lg:=.int .i64 (lg:Nat)) (root:=ints .u8 root) (v:=v30) (t:=[.int .i64 (sa:Nat),.int .i64 (sbb:Nat),.int .i64 (sc:Nat),.int .i64 (sd:Nat),v21,v22,v23,v24,v25,.int .u64 (x26.1:Nat),.int .u64 (x26.2:Nat),v27,v28,v29,.slice none 0 0]) hrl 14)).mp Bx30;have hv30:=q4n.nw hv30 hg30 (.inr (.inr rfl));have hA30:CerAt (Nw w g2 gc w30) w30 ⟨q,lg,root,sa,sbb,sc,sd,x21,x22,x23,x24,x25,x26,x27,x28,x29,x30⟩ qb v21 v22 v23 v24 v25 v27 v28 v29 v30:=⟨hA30.q,hA30.s1,hA30.p1,hA30.p2,hA30.p3,hA30.b1,hA30.o1,hA30.o2,hA30.o3,hv30⟩;clear B29 Ba30 B229 B2a30 hAa30 Da30 Bx30 hA29;obtain ⟨⟨vb,bb,rb⟩,_,_⟩:=D30.d;obtain ⟨Ab,cb,eb,_,_⟩:=rb.form;subst eb;(refine q0c<|tn<|q0b<|q0b<|q0a<|m_P rfl<|Ls (q1l rfl)<|Ls (q0g rfl)<|Ls (X_ld rfl bb rfl)<|Ls (q0h rfl)<|Ls (q5s rfl rfl)<|q0c<|tn ?_);refine q1d rfl (fun h=>?_) (fun h=>?_)
      · have hr:r30 ≠ []:=by
          intro e;rw [e] at h;simp at h
        (refine q0a ?_);refine Ls (q8i rfl) ?_;refine L_halt rfl rfl (z2d rfl) ?_;refine ⟨rfl,DecR.err D30.g ?_⟩;show (Ce.certC.p l).bind _=_;rw [h30];exact if_neg hr
      · have hr:r30=[]:=by
          apply List.eq_nil_of_length_eq_zero;omega
        have hx:Ce.certD l=.got ⟨q,lg,root,sa,sbb,sc,sd,x21,x22,x23,x24,x25,x26,x27,x28,x29,x30⟩ r30:=by
          show (Ce.certC.p l).bind _=_;rw [h30];exact if_pos hr
        (refine q0o<|tn<|q0b<|q0a<|Ls (q2o rfl B30 (by rw [q2g hrl];rfl)) ?_);refine q0m (l:=(dC (.string qb) (.int .i64 (lg:Nat)) (ints .u8 root) [.int .i64 (sa:Nat),.int .i64 (sbb:Nat),.int .i64 (sc:Nat),.int .i64 (sd:Nat),v21,v22,v23,v24,v25,.int .u64 (x26.1:Nat),.int .u64 (x26.2:Nat),v27,v28,v29,v30])) rfl rfl (by rw [q2g hrl];rfl) hA30.one B230 hz2 ?_;intro w40 B40 hg40 hs40;have D40:=D30.set he hg40 (by omega);have hA40:=hA30.nw hg40 (.inr (.inl rfl));(refine q0c<|tn<|q0r ?_);refine q1h rfl rfl (Res.cellA inferInstance rfl (B40.range (o:=0) (fun j u h=>by simpa using h)) (by rw [q2g hrl];rfl) .nil) ?_;exact DecR.got D40.g hx (dC (.string qb) (.int .i64 (lg:Nat)) (ints .u8 root) [.int .i64 (sa:Nat),.int .i64 (sbb:Nat),.int .i64 (sc:Nat),.int .i64 (sd:Nat),v21,v22,v23,v24,v25,.int .u64 (x26.1:Nat),.int .u64 (x26.2:Nat),v27,v28,v29,v30]) ⟨qb,v21,v22,v23,v24,v25,v27,v28,v29,v30,rfl,hroot,hA40.mono fun k hk=>⟨hk.1,hk.2.1⟩⟩ D40.d
end Go.Proofs.YtbolofkandcnlaaGreatDoor
namespace Go.Proofs.K
open Go.RowKit
section
variable {P:Program} {n:NN} {Q:Exit→Fr→World→Prop} {f:Fr} {w:World}
theorem T_of_WD {fn:Func} {R:Ending→World→Prop} {c:Code} (h:W P n c (fun e f w=>bodyPostM n.fen 9 P fn R e (act n f) w) f w):T P n fn R c f w :=
  wpIn_mono h (by rintro e a w ⟨f,rfl,hq⟩;exact hq)
theorem T_defer1 {k id:Nat} {dv:List Deferred} {fn:Func} {R:Ending→World→Prop} {rest:Code} {o1 o2:Oper} {v:Value} {w1:World} {D:Deferred} (g1:o1.guard=none) (h1:X P ⟨k,dv,none⟩ o1 f w=.ok (.value v) w1)
    (g2:o2.guard=none) (hd:o2.dst=none) (h2:X P ⟨k,dv,none⟩ o2 (updo f o1.dst v) w1=.ok (.defer D) w1) (h:T P ⟨k,D :: dv,none⟩ fn R rest (updo f o1.dst v) w1) :
    T P ⟨k,dv,none⟩ fn R (.seq (.region id #[o1,o2] false) rest) f w:=by
  refine wpIn_seq (wpIn_region_lit (l:=[o1,o2]) ?_);unfold wpListIn;rw [if_pos (by simp [Region.wanted,g1])];refine (q9n (K:=fun u w'=>u=v∧w'=w1) h1 ⟨rfl,rfl⟩).wp ?_;rintro u w' ⟨rfl,rfl⟩;unfold wpListIn;rw [if_pos (by simp [Region.wanted,g2])];refine ⟨fun _ _=>trivial,?_⟩;have h2':(execOp (act ⟨k,dv,none⟩ (updo f o1.dst u)).eval o2).run P w'=.ok (.defer D) w':=by rw [q8q];exact h2
  show Oper.uponIn _ _ _ _ _ _ _ ((o2.semAt none _).run P w');rw [Oper.semAt_none,h2',Oper.uponIn_defer];unfold wpListIn;rw [hd];exact h
theorem z2n {k m:Nat} {c:Code} {Q:Exit→Act→List Frame→World→Prop} {cs:List Frame} (h:W P ⟨k,[],none⟩ c (fun e f w=>Q e (act ⟨k,[],none⟩ f) cs w) f w):c.wpSIn Fence.wide m P Q (act ⟨k,[],none⟩ f) cs w :=
  wpSIn_of_wpIn rfl (z3g (F:=Fence.wide) rfl (m:=9) (wpIn_mono h (by rintro e a w ⟨f,rfl,hq⟩;exact hq)))
theorem z1o {m d1 d2 id:Nat} {cs:List Frame} {R:Exit→Act→List Frame→World→Prop} {tys:Array TypeId} {t1 t2:TypeId} {p1 p2:String} {a1 a2:Array Edge} {rest:Code} (hd:d1 < n.k)
    (h:match recoverD cs with
      | some (v,cs')=>rest.wpSIn Fence.wide m P R (act n (upd (upd f d1 v) d2 v)) cs' w
      | none=>rest.wpSIn Fence.wide m P R (act n (upd (upd f d1 .nilIface) d2 .nilIface)) cs w) :
    (Code.seq (.region id #[⟨some d1,.call ⟨.builtin .recover,#[],tys⟩,t1,p1,a1,none⟩,⟨some d2,.assign (.tmp d1),t2,p2,a2,none⟩] false) rest).wpSIn Fence.wide m P R (act n f) cs w:=by
  apply wpSIn_seq;apply wpSIn_region;have hev:∀ v,ev n (upd f d1 v) (.tmp d1)=v:=fun v=>by simp [ev,blt_true hd,z1i]
  have e:∀ u,act n (upd (upd f d1 u) d2 u)=⟨((act n f).tmps.setIfInBounds d1 u).setIfInBounds d2 (if d1 < (act n f).tmps.size then u else undef),(act n f).defers⟩:=fun u=>by
    have h1:d1 < (arr n f).size:=(by rw [arr_size];exact hd);show (⟨arr n _,n.dv⟩:Act)=⟨((arr n f).setIfInBounds d1 u).setIfInBounds d2 (if d1 < (arr n f).size then u else undef),n.dv⟩;rw [if_pos h1,z3x,z3x]
  cases hr:recoverD cs with
  | none =>
    rw [hr] at h;dsimp only at h;rw [e] at h;simp [wpOpsSIn,go_sem,Region.wanted,hr,q8q,Exit.thenS];exact h
  | some q =>
    obtain ⟨v,cs'⟩:=q;rw [hr] at h;dsimp only at h;rw [e] at h;simp [wpOpsSIn,go_sem,Region.wanted,hr,q8q,Exit.thenS];exact h
variable {d:Option Tmp} {t ty ty':TypeId} {pos:String} {af:Array Edge} {g:Option (Nat × Bool)} {x y:Operand} {k:IntKind}
theorem X_neqNN {ms:Array (String × TypeId)} (h:P.underlying ty=some (.interface ms)) (hx:ev n f x=.nilIface):X P n ⟨d,.binOp .neq ty x (.const .nilIface) ty',t,pos,af,g⟩ f w=.ok (.value (.bool false)) w:=by
  have e:P.underlying ty=some (.interface (P.methodsAt ty)):=by rw [h];simp [Program.methodsAt,h]
  simp only [X,execOp,hx,show ev n f (.const .nilIface)=.nilIface from rfl,eqGuard_nil_constR];simp [run_neq_nil_nil w ty e]
theorem X_neqIN {ms:Array (String × TypeId)} {T:TypeId} {v:Value} (h:P.underlying ty=some (.interface ms)) (hx:ev n f x=.iface T v):X P n ⟨d,.binOp .neq ty x (.const .nilIface) ty',t,pos,af,g⟩ f w=.ok (.value (.bool true)) w:=by
  have e:P.underlying ty=some (.interface (P.methodsAt ty)):=by rw [h];simp [Program.methodsAt,h]
  simp only [X,execOp,hx,show ev n f (.const .nilIface)=.nilIface from rfl];simp [go_sem,run_neq_held_nil w ty T v e]
theorem X_assertOk {T xT:TypeId} {v:Value} [hs:TInt P T k] (hx:ev n f x=.iface T v):X P n ⟨d,.typeAssert x xT T true,t,pos,af,g⟩ f w=.ok (.value (.tuple #[v,.bool true])) w:=by
  simp [X,execOp,hx,Instr.typeAssert,run_underlying hs.h]
end
end Go.Proofs.K
namespace Go.Proofs.YtbolofkandcnlaaGreatDoor
open Go.RowKit Go.Proofs.K
theorem idleD (c r:Nat) (w:World):CallsDIn Fence.wide 8 Tryz.prog 22 #[ptr c,ptr r] .returning w fun e u' w'=>e=.returned (.tuple #[])∧u'=.returning∧w'=w:=by
  refine callsDIn_of_wpSIn Tryz.func22 rfl trivial fun c₀ cs hu=>?_;rw [show (Tryz.f22).ntmps=18 from rfl,arr_fr0 _ ⟨18,[],none⟩ (Nat.le_of_ble_eq_true rfl)];refine z1o (by decide) ?_;rw [show recoverD (c₀ :: cs)=none by simp [recoverD,hu]];refine z2n ?_;(refine q0b<|q0a<|Ls (q0d (v:=.nilIface) rfl)<|Ls (X_neqNN Tryz.underlying20 rfl)<|q0c<|tn ?_);refine z0h rfl (fun h=>by cases h) (fun _=>?_);(refine q0o ?_);exact ⟨rfl,.returning,by rw [← hu],_,results_none rfl _ _ _,rfl,rfl,rfl⟩
theorem catchD (x c r:Nat) (zc ze:List Value) (hzc:zc.length=49) (hze:ze.length=1) (w:World) (hB:Blk w c 43 zc) (hr:Blk w r 47 ze) (hne:c ≠ r) :
    CallsDIn Fence.wide 8 Tryz.prog 22 #[ptr c,ptr r] (.panicking (erV x)) w fun e u' w'=>e=.returned (.tuple #[])∧u'=.panicking [{ v:=.iface 47 (.int .i64 (x:Nat)),recovered:=true }] ∧
      (∃ w1,w.grownBy w1 (some c)∧w1.grownBy w' (some r))∧Blk w' c 43 (cerC ⟨[],0,List.replicate 32 0,0,0,0,0,[],[],[],[],[],(0,0),[],[],[],[]⟩ ByteArray.empty (.slice none 0 0) (.slice none 0 0) (.slice none 0 0) (.slice none 0 0) (.slice none 0 0) (.slice none 0 0) (.slice none 0 0) (.slice none 0 0) (.slice none 0 0))∧Blk w' r 47 [.int .i64 (x:Nat)]:=by
  refine callsDIn_of_wpSIn Tryz.func22 rfl trivial fun c₀ cs hu=>?_;rw [show (Tryz.f22).ntmps=18 from rfl,arr_fr0 _ ⟨18,[],none⟩ (Nat.le_of_ble_eq_true rfl)];refine z1o (by decide) ?_;rw [show recoverD (c₀ :: cs)=some (.iface 47 (.int .i64 (x:Nat)),{ c₀ with mode:=.panicking [{ v:=.iface 47 (.int .i64 (x:Nat)),recovered:=true }] } :: cs) by simp [recoverD,hu]];refine z2n ?_;(refine q0b<|q0a<|Ls (q0d (v:=.iface _ _) rfl)<|Ls (X_neqIN Tryz.underlying20 rfl)<|q0c<|tn ?_);refine z0h rfl (fun _=>?_) (fun h=>by cases h);(refine q0b<|q0a<|Ls (q0d (v:=.iface _ _) rfl) ?_);refine Ls (X_assertOk rfl) ?_;(refine m_T rfl<|Ls (q0u rfl rfl)<|Ls (q0u rfl rfl)<|a_I rfl<|a_B rfl<|q0c<|tn<|q0b<|q0b<|q0a<|m_B rfl<|Ls (q2d rfl)<|q0c<|tn ?_);refine z0h rfl (fun h=>by cases h) (fun _=>?_);(refine q0o<|tn<|q0a ?_);refine Ls (q1x (r:=[]) (Parts.nil _)) ?_;(refine m_I rfl ?_);refine q0m (l:=cerC ⟨[],0,List.replicate 32 0,0,0,0,0,[],[],[],[],[],(0,0),[],[],[],[]⟩ ByteArray.empty (.slice none 0 0) (.slice none 0 0) (.slice none 0 0) (.slice none 0 0) (.slice none 0 0) (.slice none 0 0) (.slice none 0 0) (.slice none 0 0) (.slice none 0 0)) rfl rfl rfl ?_ hB hzc ?_
  · exact (CerAt.one (N:=fun _=>True) (w:=w) ⟨rfl,q1n,q1n,q1n,q1n,q1n,q1n,q1n,q1n,q1n⟩)
  intro w1 B1 hg1 hs1;refine q1a (v:=.int .i64 (x:Nat)) rfl rfl rfl (hr.grown hg1 (by intro h;cases h;exact hne rfl)) (by omega) ?_;intro w2 B2 hg2 hs2;(refine q0c ?_);refine ⟨rfl,_,rfl,_,results_none rfl _ _ _,rfl,rfl,⟨w1,hg1,hg2⟩,B1.grown hg2 (by intro h;cases h;exact hne rfl),?_⟩;match ze,hze with
  | [z],_=>exact B2
end Go.Proofs.YtbolofkandcnlaaGreatDoor
namespace Go.Proofs.K
open Go.RowKit
section
variable {P:Program} {n:NN} {Q:Exit→Fr→World→Prop} {f:Fr} {w:World}
theorem X_defer {d:Option Tmp} {t:TypeId} {pos:String} {af:Array Edge} {g:Option (Nat × Bool)} {x:Operand} {fv:Fn} {cap:Array Value} {tys:Array TypeId} (hx:ev n f x=.func fv #[] cap):X P n ⟨d,.defer ⟨.value x,#[],tys⟩,t,pos,af,g⟩ f w=.ok (.defer { target:=.fn fv cap,args:=#[] }) w:=by
  simp [X,execOp,resolve,hx,Deferred.ofValue]
theorem z2u {id:FuncId} [TFun P id] {fn:Func} {tm:Array Value} {R:Ending→World→Prop} {cap:Array Value} {u:FrameMode} {R':Ending→FrameMode→World→Prop} (hu:u ≠ .run) (c:CallsDIn Fence.wide 8 P id cap u w R')
    (h:∀ e u' w',R' e u' w'→∃ v,e=.returned v∧settle u'=.returning∧q9c P fn R tm [] w'):LeavesInM Fence.wide 9 P fn tm R [{ target:=.fn (.func id) cap,args:=#[] }] u w:=by
  refine ⟨hu,.inr ⟨fun _=>by omega,.func id,cap,id,cap,rfl,?_,fun _ _=>trivial,c.mono ?_⟩⟩
  · show (callFunc id (#[]++cap)).run P w=_;rw [TFun.run];simp
  · intro e u' w' hR;obtain ⟨v,rfl,hs,hl⟩:=h e u' w' hR;show LeavesInM Fence.wide 9 P fn tm R [] (settle u') w';rw [hs];exact hl
end
end Go.Proofs.K
namespace Ce
def zero:Cert:=⟨[],0,List.replicate 32 0,0,0,0,0,[],[],[],[],[],(0,0),[],[],[],[]⟩
theorem decode_certD {l:List Nat} (h:l.length≤65536):decode l=match certD l with
    | .err e=>.err e
    | .got c _=>.ok c:=by
  unfold decode certD;rw [if_neg (by omega)];cases certC.p l with
  | err e=>rfl
  | got c r =>
    show (if r=[] then Ans.ok c else .err 5)=match (if r=[] then Res.got c r else .err 5) with
      | .err e=>.err e
      | .got c _=>.ok c
    by_cases hr:r=[]
    · rw [if_pos hr,if_pos hr]
    · rw [if_neg hr,if_neg hr]
theorem certD_err {l:List Nat} {x:Nat} (h:certD l=.err x):x=5∨x=6:=by
  unfold certD at h;cases hp:certC.p l with
  | err e=>rw [hp] at h;cases h;exact only_cert l _ hp
  | got c r =>
    rw [hp] at h;have h:(if r=[] then Res.got c r else .err 5)=.err x:=h;split at h
    · cases h
    · cases h;exact .inl rfl
end Ce
namespace Go.Proofs.YtbolofkandcnlaaGreatDoor
open Go.RowKit Go.Proofs.K
theorem CerAt.grown {N:Nat→Prop} {a b:World} {row:Option Nat} {c:Ce.Cert} {qb:ByteArray} {s1 p1 p2 p3 b1 o1 o2 o3 o4:Value} (h:CerAt N a c qb s1 p1 p2 p3 b1 o1 o2 o3 o4) (hg:a.grownBy b row) (hr:∀ q,row=some q→¬ N q):CerAt N b c qb s1 p1 p2 p3 b1 o1 o2 o3 o4 :=
  ⟨h.q,(q1j (by decide) q2r).grown h.s1 hg hr,q1i.grown h.p1 hg hr,q1t.grown h.p2 hg hr,q1t.grown h.p3 hg hr,q1i.grown h.b1 hg hr,q0y.grown h.o1 hg hr,q0y.grown h.o2 hg hr,q3u.grown h.o3 hg hr,q4n.grown h.o4 hg hr⟩
theorem q2c:cerR.Ok where
  mono:=fun ⟨qb,s1,p1,p2,p3,b1,o1,o2,o3,o4,hx,hr,h⟩ hN=>⟨qb,s1,p1,p2,p3,b1,o1,o2,o3,o4,hx,hr,h.mono hN⟩
  grown:=fun ⟨qb,s1,p1,p2,p3,b1,o1,o2,o3,o4,hx,hr,h⟩ hg hn=>⟨qb,s1,p1,p2,p3,b1,o1,o2,o3,o4,hx,hr,h.grown hg hn⟩
  keep:=fun ⟨qb,s1,p1,p2,p3,b1,o1,o2,o3,o4,hx,hr,h⟩ k hn=>⟨qb,s1,p1,p2,p3,b1,o1,o2,o3,o4,hx,hr,h.keep k hn⟩
  tight:=fun ⟨qb,s1,p1,p2,p3,b1,o1,o2,o3,o4,hx,hr,h⟩=>⟨qb,s1,p1,p2,p3,b1,o1,o2,o3,o4,hx,hr,h.tight⟩
  one:=fun ⟨qb,s1,p1,p2,p3,b1,o1,o2,o3,o4,hx,hr,h⟩ v hv=>by subst hx;exact h.one v hv
theorem q4u {N:Nat→Prop} {w:World} {y:List Value} {c:Ce.Cert} (h:cerR N w y c):y.length=49:=by
  obtain ⟨qb,s1,p1,p2,p3,b1,o1,o2,o3,o4,hx,hr,h⟩:=h;subst hx;exact q7j hr
def zerC:List Value:=cerC Ce.zero ByteArray.empty (.slice none 0 0) (.slice none 0 0) (.slice none 0 0) (.slice none 0 0) (.slice none 0 0) (.slice none 0 0) (.slice none 0 0) (.slice none 0 0) (.slice none 0 0)
theorem q2v {N:Nat→Prop} {w:World}:cerR N w zerC Ce.zero:=⟨_,_,_,_,_,_,_,_,_,_,rfl,rfl,rfl,q1n,q1n,q1n,q1n,q1n,q1n,q1n,q1n,q1n⟩
def DecA (l:List Nat) (w:World) (e:Ending) (w':World):Prop :=
  Ext w w'∧∃ y c x,e=.returned (.tuple #[.agg y.toArray,.int .i64 (x:Nat)])∧cerR (fun k=>w.heap.size≤k∧k < w'.heap.size) w' y c∧Ce.decode l=(if x=0 then .ok c else .err x)∧(x ≠ 0→c=Ce.zero)
set_option maxRecDepth 100000 in
set_option maxHeartbeats 2000000 in
theorem z1z (N:Nat→Prop) (b:Value) (l:List Nat) (w:World) (hb:RowN N w 1 b l.length (ints .u8 l)) (h8:∀ x∈l,x < 256) :
    Calls Tryz.prog 6 #[b] w (DecA l w):=by
  refine calls_T Tryz.func6 rfl Tryz.ntmps6 rfl ?_;have hb:=hb.tight (by decide);obtain ⟨A,cb,e,hlc,hcm⟩:=hb.form;subst e;refine T_seq ?_;(refine q0a ?_);refine q0z ?_;intro g2 w2 B2 hg2 E2 hs2;refine q0z ?_;intro g3 w3 B3 hg3 E3 hs3;(refine q0c<|tn ?_);refine T_seq ?_;(refine q0b<|q0a<|m_S rfl<|Ls (q0h rfl)<|Ls (q5s rfl rfl)<|q0c<|tn ?_);refine q1d rfl (fun h=>?_) (fun h=>?_)
  · have hl:65536 < l.length:=(by omega);(refine q0b<|q0a ?_);refine Ls (q1x (r:=[]) (Parts.nil _)) ?_;refine q0m (l:=zerC) rfl rfl rfl (q2c.one (N:=fun _=>True) (w:=w) q2v) (B2.ext E3) rfl ?_;intro w4 B4 hg4 hs4;refine q1a (v:=.int .i64 2) rfl rfl rfl (B3.grown hg4 (by intro h;cases h;omega)) (by decide) ?_;intro w5 B5 hg5 hs5;(refine q0c<|tn<|q0r<|tr ?_);have B45:=B4.grown hg5 (by intro h;cases h;omega);refine q1h rfl rfl (Res.cellA inferInstance rfl (B45.range (o:=0) (fun j u h=>by simpa using h)) rfl (Res.cell1 inferInstance rfl (B5.cell 0) .nil)) ?_;have h2s:=E2.size;have h3s:=E3.size;refine ⟨((E2.trans E3).then hg4 fun g hg=>by cases hg;omega).then hg5 fun g hg=>by cases hg;omega,zerC,Ce.zero,2,rfl,q2v,?_,fun _=>rfl⟩;unfold Ce.decode;rw [if_pos hl];rfl
  · have hl:l.length≤65536:=(by omega);(refine q0o<|tn ?_);refine T_defer1 rfl (q1u (fi:=[]) (ca:=[.tmp 2,.tmp 3]) (vf:=[]) (vc:=[ptr g2,ptr g3]) rfl rfl) rfl rfl (X_defer rfl) ?_;refine T_of_WD ?_;(refine q0b<|q0a<|m_S rfl ?_);refine Ls (q1x (r:=[(0,.tmp 9)]) (zs':=[[.slice A l.length cb]]) (Parts.cons (c:=[.slice A l.length cb]) (z:=[.slice none 0 0]) rfl rfl rfl rfl (Parts.nil _))) ?_;refine q3t (l:=[.slice A l.length cb]) rfl ?_;intro g4 w4 B4 hg4 E4 hs4;have h2s:=E2.size;have h3s:=E3.size;have h4s:=E4.size;have E24:=E2.trans (E3.trans E4);have he:DecAt (fun k=>N k∧k < w.heap.size) g4 w4 l:=⟨⟨_,B4,hb.ext E24⟩,h8,fun q hq=>⟨by omega,by omega⟩⟩;have B24:=(B2.ext E3).ext E4;have B34:=B3.ext E4;refine q6s (dcert _ g4 l w4 he) rfl ?_ ?_
    · intro x w5 hg5 hS;have B25:=B24.grown hg5 (by intro h;cases h;omega);have B35:=B34.grown hg5 (by intro h;cases h;omega);have hx:=Ce.certD_err hS;refine z2u (by intro h;cases h) (catchD x g2 g3 _ _ rfl rfl w5 B25 B35 (by omega)) ?_;rintro e u' w' ⟨rfl,rfl,⟨w6,hg6,hg7⟩,B27,B37⟩;refine ⟨_,rfl,rfl,?_⟩;refine q8o (n:=⟨13,[],none⟩) rfl (Res.cellA inferInstance rfl (B27.range (o:=0) (fun j u h=>by simpa using h)) rfl (Res.cell1 inferInstance rfl (B37.cell 0) .nil)) ?_;refine ⟨((E24.then hg5 fun g hg=>by cases hg;omega).then hg6 fun g hg=>by cases hg;omega).then hg7 fun g hg=>by cases hg;omega,zerC,Ce.zero,x,rfl,q2v,?_,fun _=>rfl⟩;rw [Ce.decode_certD hl,hS,if_neg (by omega)]
    · intro c r y w5 hg5 hS hy e5;have h5s:=hg5.size;have B25:=B24.grown hg5 (by intro h;cases h;omega);have B35:=B34.grown hg5 (by intro h;cases h;omega);refine q0m (l:=y) rfl rfl (q4u hy) (q2c.one hy) B25 rfl ?_;intro w6 B6 hg6 hs6;refine q1a (v:=.int .i64 0) rfl rfl rfl (B35.grown hg6 (by intro h;cases h;omega)) (by decide) ?_;intro w7 B7 hg7 hs7;have hy7:=q2c.grown (q2c.grown hy hg6 fun q hq k=>by cases hq;omega) hg7 fun q hq k=>(by cases hq;omega);have B67:=B6.grown hg7 (by intro h;cases h;omega);(refine q0c<|tn<|q0r ?_);refine z2u (by intro h;cases h) (idleD g2 g3 w7) ?_;rintro e u' w' ⟨rfl,rfl,rfl⟩;refine ⟨_,rfl,rfl,?_⟩;refine q8o (n:=⟨13,[],none⟩) rfl (Res.cellA inferInstance rfl (B67.range (o:=0) (fun j u h=>by simpa using h)) (q4u hy) (Res.cell1 inferInstance rfl (B7.cell 0) .nil)) ?_;refine ⟨((E24.then hg5 fun g hg=>by cases hg;omega).then hg6 fun g hg=>by cases hg;omega).then hg7 fun g hg=>by cases hg;omega,y,c,0,rfl,q2c.mono hy7 fun k hk=>⟨by omega,by omega⟩,?_,fun h=>absurd rfl h⟩;rw [Ce.decode_certD hl,hS];rfl
end Go.Proofs.YtbolofkandcnlaaGreatDoor
namespace Go.Proofs.YtbolofkandcnlaaGreatDoor
open Go.RowKit Go.Proofs.K
def q5t (p:Prop) (w:World) (e:Ending) (w':World):Prop:=∃ q:Bool,e=.returned (.bool q)∧(q=true↔p)∧Ext w w'
theorem q4w {α:Type} {xs ys:List α} {i:Nat} {a:α} (h:xs.take i=ys.take i) (ha:xs[i]?=some a) (hb:ys[i]?=some a):xs.take (i+1)=ys.take (i+1):=by
  rw [List.take_add_one,List.take_add_one,h,ha,hb]
theorem u64v_inj {x y:Int} (hx:-9223372036854775808≤x∧x≤9223372036854775807) (hy:-9223372036854775808≤y∧y≤9223372036854775807) (h:u64v x=u64v y):x=y:=by
  unfold u64v at h;omega
section
variable {n:NN} {f:Fr} {w:World} {d:Option Tmp} {t:TypeId} {pos:String} {af:Array Edge} {g:Option (Nat × Bool)} {x y:Operand}
theorem z0g {a b:Nat × Nat} (ha:E64 a) (hb:E64 b) (h:a ≠ b) (hx:ev n f x=.agg (exC a.1 a.2).toArray) (hy:ev n f y=.agg (exC b.1 b.2).toArray) :
    X Tryz.prog n ⟨d,.binOp .neq 34 x y 34,t,pos,af,g⟩ f w=.ok (.value (.bool true)) w:=by
  rw [X_neqEx ha.1 ha.2 hb.1 hb.2 hx hy,decide_eq_true (show ¬ (a.1=b.1∧a.2=b.2) from fun e=>h (Prod.ext e.1 e.2))]
theorem q8s {a b:Nat × Nat} (ha:E64 a) (hb:E64 b) (h:a=b) (hx:ev n f x=.agg (exC a.1 a.2).toArray) (hy:ev n f y=.agg (exC b.1 b.2).toArray) :
    X Tryz.prog n ⟨d,.binOp .neq 34 x y 34,t,pos,af,g⟩ f w=.ok (.value (.bool false)) w:=by
  subst h;rw [X_neqEx ha.1 ha.2 hb.1 hb.2 hx hy];simp
theorem X_neqDT {a b:List Nat} (ha:a.length=32) (hb:b.length=32) (ha8:∀ x∈a,x < 256) (hb8:∀ x∈b,x < 256) (h:a ≠ b) (hx:ev n f x=.agg (ints .u8 a).toArray) (hy:ev n f y=.agg (ints .u8 b).toArray) :
    X Tryz.prog n ⟨d,.binOp .neq 23 x y 23,t,pos,af,g⟩ f w=.ok (.value (.bool true)) w:=by
  rw [X_neqD ha hb ha8 hb8 hx hy,decide_eq_true h]
theorem z4a {a b:List Nat} (ha:a.length=32) (hb:b.length=32) (ha8:∀ x∈a,x < 256) (hb8:∀ x∈b,x < 256) (h:a=b) (hx:ev n f x=.agg (ints .u8 a).toArray) (hy:ev n f y=.agg (ints .u8 b).toArray) :
    X Tryz.prog n ⟨d,.binOp .neq 23 x y 23,t,pos,af,g⟩ f w=.ok (.value (.bool false)) w:=by
  subst h;rw [X_neqD ha hb ha8 hb8 hx hy];simp
end
set_option maxRecDepth 100000 in
set_option maxHeartbeats 1000000 in
theorem s14same {N M:Nat→Prop} {u v:Value} {xs ys:List Nat} {w:World} (hu:slR 1 sumR N w [u] xs) (hv:slR 1 sumR M w [v] ys) :
    Calls Tryz.prog 59 #[u,v] w (q5t (xs=ys) w):=by
  obtain ⟨A1,c1,e,hm1,hm2⟩:=q1o hu;have hm:xs.length≤9223372036854775807:=by unfold maxLen at hm2;omega
  obtain rfl:u=.slice A1 xs.length c1:=by simpa using e
  obtain ⟨A2,c2,e,_,_⟩:=q1o hv;obtain rfl:v=.slice A2 ys.length c2:=by simpa using e
  refine q0l Tryz.func59 rfl Tryz.ntmps59 rfl ?_;by_cases hl:xs.length=ys.length
  · (refine q0b<|q0a<|a_B rfl<|q0c<|tn<|q0b<|q0b<|q0a<|m_S rfl<|Ls (q0h rfl)<|m_S rfl<|Ls (q0h rfl)<|Ls (q3g rfl rfl (by omega))<|q0c<|tn<|q0q rfl<|q0o<|tn<|q0b<|q0b<|q0a<|a_I rfl<|q0c<|tn<|q0j ?_);refine q1k (fun q f w'=>∃ i,q=xs.length - i∧i≤xs.length∧f 0=.slice A1 xs.length c1∧f 1=.slice A2 ys.length c2∧f 5=.int .i64 (i:Nat)∧Ext w w'∧xs.take i=ys.take i) xs.length ?_ ?_
    · exact ⟨0,rfl,by omega,rfl,rfl,rfl,Ext.refl _,rfl⟩
    · rintro q f wr ⟨i,rfl,hi,f0,f1,f5,E,ht⟩;rw [fold f0,fold f1,fold f5];(refine q0b<|q0b<|q0a<|m_I rfl<|m_S rfl<|Ls (q0h rfl)<|Ls (q1w rfl rfl)<|q0c<|tn ?_);refine q1d rfl (fun h=>?_) (fun h=>?_)
      · have hi1:i < xs.length:=(by omega);obtain ⟨a,ha⟩:∃ a,xs[i]?=some a:=⟨_,List.getElem?_eq_getElem hi1⟩;obtain ⟨b,hb⟩:∃ b,ys[i]?=some b:=⟨_,List.getElem?_eq_getElem (by omega)⟩;obtain ⟨b1,o1,k1,y1,e1,_,_,hy1,hR1,hx1⟩:=q2z ((q1j (by decide) q2r).ext hu E) ha;obtain ⟨b2,o2,k2,y2,e2,_,_,hy2,hR2,hx2⟩:=q2z ((q1j (by decide) q2r).ext hv E) hb;cases e1
        cases e2
        obtain ⟨z1,rfl,rfl,hz1⟩:=hx1;obtain ⟨z2,rfl,rfl,hz2⟩:=hx2;(refine q0o<|tn<|q0b<|q0j<|q0b ?_);apply q1r 8 (by kernel_rfl);(apply DW_x (fun r w hA hH=>(q0d (v:=.slice _ _ _) rfl).trans rfl);apply DW_x (fun r w hA hH=>(q0d (v:=.int _ _) rfl).trans rfl);apply DW_x (fun r w hA hH=>(q0n rfl rfl (by omega)).trans rfl));((with_reducible apply DW_x);(exact fun r w hA hH=>(q2l rfl (hA.range hR1) (j:=0) rfl rfl).trans rfl));(apply DW_x (fun r w hA hH=>(q0d (v:=.slice _ _ _) rfl).trans rfl);apply DW_x (fun r w hA hH=>(q0d (v:=.int _ _) rfl).trans rfl);apply DW_x (fun r w hA hH=>(q0n rfl rfl (by omega)).trans rfl));((with_reducible apply DW_x);(exact fun r w hA hH=>(q2l rfl (hA.range hR2) (j:=0) rfl rfl).trans rfl));((with_reducible exact q2e);(exact rfl);(repeat (first | exact .inr (.inr (fun _ _=>by with_reducible rfl)) | (refine And.intro ?_ ?_) | exact .inr (.inl rfl) | exact .inl (by decide +kernel) | exact trivial | exact .inr (.inr (fun _ _=>rfl))));(try dsimp only [Nat.reduceAdd]));intro r w4 E4 _;by_cases hab:u64v z1=u64v z2
        · obtain rfl:z1=z2:=u64v_inj hz1 hz2 hab;(refine Ls (q3g rfl rfl (by omega))<|q0c<|tn<|q0q rfl<|q0o<|bn<|tn<|q0a<|m_I rfl<|Ls (q1e rfl rfl (by omega))<|a_I rfl<|q0c<|tn ?_);exact ⟨xs.length - (i+1),by omega,i+1,rfl,by omega,rfl,rfl,rfl,E.trans E4,q4w ht ha hb⟩
        · have hz:z1 ≠ z2:=fun e=>hab (by rw [e]);(refine Ls (q4d rfl rfl (by omega))<|q0c<|tn<|q0v rfl<|q0b<|q0a<|a_B rfl<|q0c<|tn<|q0r<|br<|tr<|tr<|br<|tr ?_);exact q0i rfl rfl (v:=.bool false) rfl ⟨false,rfl,⟨(fun h=>by cases h),fun h=>absurd (by rw [h,hb] at ha;exact (Option.some.inj ha).symm) hab⟩,E.trans E4⟩
      · obtain rfl:i=xs.length:=(by omega);(refine q1b<|te<|te<|bx<|tn<|q0b<|q0a<|a_B rfl<|q0c<|tn<|q0r ?_);rw [List.take_of_length_le (Nat.le_refl _),List.take_of_length_le (by omega)] at ht;exact q0i rfl rfl (v:=.bool true) rfl ⟨true,rfl,⟨fun _=>ht,fun _=>rfl⟩,E⟩
  · (refine q0b<|q0a<|a_B rfl<|q0c<|tn<|q0b<|q0b<|q0a<|m_S rfl<|Ls (q0h rfl)<|m_S rfl<|Ls (q0h rfl)<|Ls (q4d rfl rfl (by omega))<|q0c<|tn<|q0v rfl<|q0b<|q0a<|a_B rfl<|q0c<|tn<|q0r<|tr ?_);exact q0i rfl rfl (v:=.bool false) rfl ⟨false,rfl,⟨(fun h=>by cases h),fun h=>absurd (congrArg List.length h) hl⟩,Ext.refl _⟩
set_option maxRecDepth 100000 in
set_option maxHeartbeats 1000000 in
theorem s1same {N M:Nat→Prop} {u v:Value} {xs ys:List Nat} {w:World} (hu:slR 1 (numR .u64) N w [u] xs) (hv:slR 1 (numR .u64) M w [v] ys) :
    Calls Tryz.prog 96 #[u,v] w (q5t (xs=ys) w):=by
  obtain ⟨A1,c1,e,hm1,hm2⟩:=q1o hu;have hm:xs.length≤9223372036854775807:=by unfold maxLen at hm2;omega
  obtain rfl:u=.slice A1 xs.length c1:=by simpa using e
  obtain ⟨A2,c2,e,_,_⟩:=q1o hv;obtain rfl:v=.slice A2 ys.length c2:=by simpa using e
  refine q0l Tryz.func96 rfl Tryz.ntmps96 rfl ?_;by_cases hl:xs.length=ys.length
  · (refine q0b<|q0a<|a_B rfl<|q0c<|tn<|q0b<|q0b<|q0a<|m_S rfl<|Ls (q0h rfl)<|m_S rfl<|Ls (q0h rfl)<|Ls (q3g rfl rfl (by omega))<|q0c<|tn<|q0q rfl<|q0o<|tn<|q0b<|q0b<|q0a<|a_I rfl<|q0c<|tn<|q0j ?_);refine q1k (fun q f w'=>∃ i,q=xs.length - i∧i≤xs.length∧f 0=.slice A1 xs.length c1∧f 1=.slice A2 ys.length c2∧f 5=.int .i64 (i:Nat)∧Ext w w'∧xs.take i=ys.take i) xs.length ?_ ?_
    · exact ⟨0,rfl,by omega,rfl,rfl,rfl,Ext.refl _,rfl⟩
    · rintro q f wr ⟨i,rfl,hi,f0,f1,f5,E,ht⟩;rw [fold f0,fold f1,fold f5];(refine q0b<|q0b<|q0a<|m_I rfl<|m_S rfl<|Ls (q0h rfl)<|Ls (q1w rfl rfl)<|q0c<|tn ?_);refine q1d rfl (fun h=>?_) (fun h=>?_)
      · have hi1:i < xs.length:=(by omega);obtain ⟨a,ha⟩:∃ a,xs[i]?=some a:=⟨_,List.getElem?_eq_getElem hi1⟩;obtain ⟨b,hb⟩:∃ b,ys[i]?=some b:=⟨_,List.getElem?_eq_getElem (by omega)⟩;obtain ⟨b1,o1,k1,y1,e1,_,_,hy1,hR1,hx1⟩:=q2z ((q1j (by decide) (q1y _)).ext hu E) ha;obtain ⟨b2,o2,k2,y2,e2,_,_,hy2,hR2,hx2⟩:=q2z ((q1j (by decide) (q1y _)).ext hv E) hb;cases e1
        cases e2
        obtain rfl:y1=[_]:=hx1;obtain rfl:y2=[_]:=hx2;(refine q0o<|tn<|q0b<|q0j<|q0b ?_);apply q1r 8 (by kernel_rfl);(apply DW_x (fun r w hA hH=>(q0d (v:=.slice _ _ _) rfl).trans rfl);apply DW_x (fun r w hA hH=>(q0d (v:=.int _ _) rfl).trans rfl);apply DW_x (fun r w hA hH=>(q0n rfl rfl (by omega)).trans rfl));((with_reducible apply DW_x);(exact fun r w hA hH=>(q2l rfl (hA.range hR1) (j:=0) rfl rfl).trans rfl));(apply DW_x (fun r w hA hH=>(q0d (v:=.slice _ _ _) rfl).trans rfl);apply DW_x (fun r w hA hH=>(q0d (v:=.int _ _) rfl).trans rfl);apply DW_x (fun r w hA hH=>(q0n rfl rfl (by omega)).trans rfl));((with_reducible apply DW_x);(exact fun r w hA hH=>(q2l rfl (hA.range hR2) (j:=0) rfl rfl).trans rfl));((with_reducible exact q2e);(exact rfl);(repeat (first | exact .inr (.inr (fun _ _=>by with_reducible rfl)) | (refine And.intro ?_ ?_) | exact .inr (.inl rfl) | exact .inl (by decide +kernel) | exact trivial | exact .inr (.inr (fun _ _=>rfl))));(try dsimp only [Nat.reduceAdd]));intro r w4 E4 _;by_cases hab:a=b
        · subst hab;(refine Ls (q3g rfl rfl (by omega))<|q0c<|tn<|q0q rfl<|q0o<|bn<|tn<|q0a<|m_I rfl<|Ls (q1e rfl rfl (by omega))<|a_I rfl<|q0c<|tn ?_);exact ⟨xs.length - (i+1),by omega,i+1,rfl,by omega,rfl,rfl,rfl,E.trans E4,q4w ht ha hb⟩
        · (refine Ls (q4d rfl rfl (by omega))<|q0c<|tn<|q0v rfl<|q0b<|q0a<|a_B rfl<|q0c<|tn<|q0r<|br<|tr<|tr<|br<|tr ?_);exact q0i rfl rfl (v:=.bool false) rfl ⟨false,rfl,⟨(fun h=>by cases h),fun h=>absurd (by rw [h,hb] at ha;exact (Option.some.inj ha).symm) hab⟩,E.trans E4⟩
      · obtain rfl:i=xs.length:=(by omega);(refine q1b<|te<|te<|bx<|tn<|q0b<|q0a<|a_B rfl<|q0c<|tn<|q0r ?_);rw [List.take_of_length_le (Nat.le_refl _),List.take_of_length_le (by omega)] at ht;exact q0i rfl rfl (v:=.bool true) rfl ⟨true,rfl,⟨fun _=>ht,fun _=>rfl⟩,E⟩
  · (refine q0b<|q0a<|a_B rfl<|q0c<|tn<|q0b<|q0b<|q0a<|m_S rfl<|Ls (q0h rfl)<|m_S rfl<|Ls (q0h rfl)<|Ls (q4d rfl rfl (by omega))<|q0c<|tn<|q0v rfl<|q0b<|q0a<|a_B rfl<|q0c<|tn<|q0r<|tr ?_);exact q0i rfl rfl (v:=.bool false) rfl ⟨false,rfl,⟨(fun h=>by cases h),fun h=>absurd (congrArg List.length h) hl⟩,Ext.refl _⟩
set_option maxRecDepth 100000 in
set_option maxHeartbeats 1000000 in
theorem s2same {N M:Nat→Prop} {u v:Value} {xs ys:List (Nat × Nat)} {w:World} (hu:slR 2 exR N w [u] xs) (hv:slR 2 exR M w [v] ys) (hx:∀ e∈xs,E64 e) (hy:∀ e∈ys,E64 e) :
    Calls Tryz.prog 62 #[u,v] w (q5t (xs=ys) w):=by
  obtain ⟨A1,c1,e,hm1,hm2⟩:=q1o hu;have hm:xs.length≤9223372036854775807:=by unfold maxLen at hm2;omega
  obtain rfl:u=.slice A1 xs.length c1:=by simpa using e
  obtain ⟨A2,c2,e,_,_⟩:=q1o hv;obtain rfl:v=.slice A2 ys.length c2:=by simpa using e
  refine q0l Tryz.func62 rfl Tryz.ntmps62 rfl ?_;by_cases hl:xs.length=ys.length
  · (refine q0b<|q0a<|a_B rfl<|q0c<|tn<|q0b<|q0b<|q0a<|m_S rfl<|Ls (q0h rfl)<|m_S rfl<|Ls (q0h rfl)<|Ls (q3g rfl rfl (by omega))<|q0c<|tn<|q0q rfl<|q0o<|tn<|q0b<|q0b<|q0a<|a_I rfl<|q0c<|tn<|q0j ?_);refine q1k (fun q f w'=>∃ i,q=xs.length - i∧i≤xs.length∧f 0=.slice A1 xs.length c1∧f 1=.slice A2 ys.length c2∧f 5=.int .i64 (i:Nat)∧Ext w w'∧xs.take i=ys.take i) xs.length ?_ ?_
    · exact ⟨0,rfl,by omega,rfl,rfl,rfl,Ext.refl _,rfl⟩
    · rintro q f wr ⟨i,rfl,hi,f0,f1,f5,E,ht⟩;rw [fold f0,fold f1,fold f5];(refine q0b<|q0b<|q0a<|m_I rfl<|m_S rfl<|Ls (q0h rfl)<|Ls (q1w rfl rfl)<|q0c<|tn ?_);refine q1d rfl (fun h=>?_) (fun h=>?_)
      · have hi1:i < xs.length:=(by omega);obtain ⟨a,ha⟩:∃ a,xs[i]?=some a:=⟨_,List.getElem?_eq_getElem hi1⟩;obtain ⟨b,hb⟩:∃ b,ys[i]?=some b:=⟨_,List.getElem?_eq_getElem (by omega)⟩;obtain ⟨b1,o1,k1,y1,e1,_,_,hy1,hR1,hx1⟩:=q2z ((q1j (by decide) q3p).ext hu E) ha;obtain ⟨b2,o2,k2,y2,e2,_,_,hy2,hR2,hx2⟩:=q2z ((q1j (by decide) q3p).ext hv E) hb;cases e1
        cases e2
        obtain rfl:y1=exC _ _:=hx1;obtain rfl:y2=exC _ _:=hx2;have q1:=hx a (List.mem_of_getElem? ha);have q2:=hy b (List.mem_of_getElem? hb);(refine q0o<|tn<|q0b<|q0j<|q0b ?_);apply q1r 8 (by kernel_rfl);(apply DW_x (fun r w hA hH=>(q0d (v:=.slice _ _ _) rfl).trans rfl);apply DW_x (fun r w hA hH=>(q0d (v:=.int _ _) rfl).trans rfl);apply DW_x (fun r w hA hH=>(q0n rfl rfl (by omega)).trans rfl));((with_reducible apply DW_x);(exact fun r w hA hH=>(q2s (size:=2) (cs:=exC a.1 a.2) rfl (hA.range hR1) rfl).trans rfl));(apply DW_x (fun r w hA hH=>(q0d (v:=.slice _ _ _) rfl).trans rfl);apply DW_x (fun r w hA hH=>(q0d (v:=.int _ _) rfl).trans rfl);apply DW_x (fun r w hA hH=>(q0n rfl rfl (by omega)).trans rfl));((with_reducible apply DW_x);(exact fun r w hA hH=>(q2s (size:=2) (cs:=exC b.1 b.2) rfl (hA.range hR2) rfl).trans rfl));((with_reducible exact q2e);(exact rfl);(repeat (first | exact .inr (.inr (fun _ _=>by with_reducible rfl)) | (refine And.intro ?_ ?_) | exact .inr (.inl rfl) | exact .inl (by decide +kernel) | exact trivial | exact .inr (.inr (fun _ _=>rfl))));(try dsimp only [Nat.reduceAdd]));intro r w4 E4 _;by_cases hab:a=b
        · subst hab;(refine Ls (q8s q1 q2 rfl rfl rfl)<|q0c<|tn<|q0q rfl<|q0o<|bn<|tn<|q0a<|m_I rfl<|Ls (q1e rfl rfl (by omega))<|a_I rfl<|q0c<|tn ?_);exact ⟨xs.length - (i+1),by omega,i+1,rfl,by omega,rfl,rfl,rfl,E.trans E4,q4w ht ha hb⟩
        · (refine Ls (z0g q1 q2 hab rfl rfl)<|q0c<|tn<|q0v rfl<|q0b<|q0a<|a_B rfl<|q0c<|tn<|q0r<|br<|tr<|tr<|br<|tr ?_);exact q0i rfl rfl (v:=.bool false) rfl ⟨false,rfl,⟨(fun h=>by cases h),fun h=>absurd (by rw [h,hb] at ha;exact (Option.some.inj ha).symm) hab⟩,E.trans E4⟩
      · obtain rfl:i=xs.length:=(by omega);(refine q1b<|te<|te<|bx<|tn<|q0b<|q0a<|a_B rfl<|q0c<|tn<|q0r ?_);rw [List.take_of_length_le (Nat.le_refl _),List.take_of_length_le (by omega)] at ht;exact q0i rfl rfl (v:=.bool true) rfl ⟨true,rfl,⟨fun _=>ht,fun _=>rfl⟩,E⟩
  · (refine q0b<|q0a<|a_B rfl<|q0c<|tn<|q0b<|q0b<|q0a<|m_S rfl<|Ls (q0h rfl)<|m_S rfl<|Ls (q0h rfl)<|Ls (q4d rfl rfl (by omega))<|q0c<|tn<|q0v rfl<|q0b<|q0a<|a_B rfl<|q0c<|tn<|q0r<|tr ?_);exact q0i rfl rfl (v:=.bool false) rfl ⟨false,rfl,⟨(fun h=>by cases h),fun h=>absurd (congrArg List.length h) hl⟩,Ext.refl _⟩
set_option maxRecDepth 100000 in
set_option maxHeartbeats 1000000 in
theorem s3same {N M:Nat→Prop} {u v:Value} {xs ys:List (Nat × Nat)} {w:World} (hu:slR 2 exR N w [u] xs) (hv:slR 2 exR M w [v] ys) (hx:∀ e∈xs,E64 e) (hy:∀ e∈ys,E64 e) :
    Calls Tryz.prog 95 #[u,v] w (q5t (xs=ys) w):=by
  obtain ⟨A1,c1,e,hm1,hm2⟩:=q1o hu;have hm:xs.length≤9223372036854775807:=by unfold maxLen at hm2;omega
  obtain rfl:u=.slice A1 xs.length c1:=by simpa using e
  obtain ⟨A2,c2,e,_,_⟩:=q1o hv;obtain rfl:v=.slice A2 ys.length c2:=by simpa using e
  refine q0l Tryz.func95 rfl Tryz.ntmps95 rfl ?_;by_cases hl:xs.length=ys.length
  · (refine q0b<|q0a<|a_B rfl<|q0c<|tn<|q0b<|q0b<|q0a<|m_S rfl<|Ls (q0h rfl)<|m_S rfl<|Ls (q0h rfl)<|Ls (q3g rfl rfl (by omega))<|q0c<|tn<|q0q rfl<|q0o<|tn<|q0b<|q0b<|q0a<|a_I rfl<|q0c<|tn<|q0j ?_);refine q1k (fun q f w'=>∃ i,q=xs.length - i∧i≤xs.length∧f 0=.slice A1 xs.length c1∧f 1=.slice A2 ys.length c2∧f 5=.int .i64 (i:Nat)∧Ext w w'∧xs.take i=ys.take i) xs.length ?_ ?_
    · exact ⟨0,rfl,by omega,rfl,rfl,rfl,Ext.refl _,rfl⟩
    · rintro q f wr ⟨i,rfl,hi,f0,f1,f5,E,ht⟩;rw [fold f0,fold f1,fold f5];(refine q0b<|q0b<|q0a<|m_I rfl<|m_S rfl<|Ls (q0h rfl)<|Ls (q1w rfl rfl)<|q0c<|tn ?_);refine q1d rfl (fun h=>?_) (fun h=>?_)
      · have hi1:i < xs.length:=(by omega);obtain ⟨a,ha⟩:∃ a,xs[i]?=some a:=⟨_,List.getElem?_eq_getElem hi1⟩;obtain ⟨b,hb⟩:∃ b,ys[i]?=some b:=⟨_,List.getElem?_eq_getElem (by omega)⟩;obtain ⟨b1,o1,k1,y1,e1,_,_,hy1,hR1,hx1⟩:=q2z ((q1j (by decide) q3p).ext hu E) ha;obtain ⟨b2,o2,k2,y2,e2,_,_,hy2,hR2,hx2⟩:=q2z ((q1j (by decide) q3p).ext hv E) hb;cases e1
        cases e2
        obtain rfl:y1=exC _ _:=hx1;obtain rfl:y2=exC _ _:=hx2;have q1:=hx a (List.mem_of_getElem? ha);have q2:=hy b (List.mem_of_getElem? hb);(refine q0o<|tn<|q0b<|q0j<|q0b ?_);apply q1r 8 (by kernel_rfl);(apply DW_x (fun r w hA hH=>(q0d (v:=.slice _ _ _) rfl).trans rfl);apply DW_x (fun r w hA hH=>(q0d (v:=.int _ _) rfl).trans rfl);apply DW_x (fun r w hA hH=>(q0n rfl rfl (by omega)).trans rfl));((with_reducible apply DW_x);(exact fun r w hA hH=>(q2s (size:=2) (cs:=exC a.1 a.2) rfl (hA.range hR1) rfl).trans rfl));(apply DW_x (fun r w hA hH=>(q0d (v:=.slice _ _ _) rfl).trans rfl);apply DW_x (fun r w hA hH=>(q0d (v:=.int _ _) rfl).trans rfl);apply DW_x (fun r w hA hH=>(q0n rfl rfl (by omega)).trans rfl));((with_reducible apply DW_x);(exact fun r w hA hH=>(q2s (size:=2) (cs:=exC b.1 b.2) rfl (hA.range hR2) rfl).trans rfl));((with_reducible exact q2e);(exact rfl);(repeat (first | exact .inr (.inr (fun _ _=>by with_reducible rfl)) | (refine And.intro ?_ ?_) | exact .inr (.inl rfl) | exact .inl (by decide +kernel) | exact trivial | exact .inr (.inr (fun _ _=>rfl))));(try dsimp only [Nat.reduceAdd]));intro r w4 E4 _;by_cases hab:a=b
        · subst hab;(refine Ls (q8s q1 q2 rfl rfl rfl)<|q0c<|tn<|q0q rfl<|q0o<|bn<|tn<|q0a<|m_I rfl<|Ls (q1e rfl rfl (by omega))<|a_I rfl<|q0c<|tn ?_);exact ⟨xs.length - (i+1),by omega,i+1,rfl,by omega,rfl,rfl,rfl,E.trans E4,q4w ht ha hb⟩
        · (refine Ls (z0g q1 q2 hab rfl rfl)<|q0c<|tn<|q0v rfl<|q0b<|q0a<|a_B rfl<|q0c<|tn<|q0r<|br<|tr<|tr<|br<|tr ?_);exact q0i rfl rfl (v:=.bool false) rfl ⟨false,rfl,⟨(fun h=>by cases h),fun h=>absurd (by rw [h,hb] at ha;exact (Option.some.inj ha).symm) hab⟩,E.trans E4⟩
      · obtain rfl:i=xs.length:=(by omega);(refine q1b<|te<|te<|bx<|tn<|q0b<|q0a<|a_B rfl<|q0c<|tn<|q0r ?_);rw [List.take_of_length_le (Nat.le_refl _),List.take_of_length_le (by omega)] at ht;exact q0i rfl rfl (v:=.bool true) rfl ⟨true,rfl,⟨fun _=>ht,fun _=>rfl⟩,E⟩
  · (refine q0b<|q0a<|a_B rfl<|q0c<|tn<|q0b<|q0b<|q0a<|m_S rfl<|Ls (q0h rfl)<|m_S rfl<|Ls (q0h rfl)<|Ls (q4d rfl rfl (by omega))<|q0c<|tn<|q0v rfl<|q0b<|q0a<|a_B rfl<|q0c<|tn<|q0r<|tr ?_);exact q0i rfl rfl (v:=.bool false) rfl ⟨false,rfl,⟨(fun h=>by cases h),fun h=>absurd (congrArg List.length h) hl⟩,Ext.refl _⟩
set_option maxRecDepth 100000 in
set_option maxHeartbeats 1000000 in
theorem s8same {N M:Nat→Prop} {u v:Value} {xs ys:List (List Nat)} {w:World} (hu:slR 32 (byR 32) N w [u] xs) (hv:slR 32 (byR 32) M w [v] ys) (hx:∀ e∈xs,∀ b∈e,b < 256) (hy:∀ e∈ys,∀ b∈e,b < 256) :
    Calls Tryz.prog 63 #[u,v] w (q5t (xs=ys) w):=by
  obtain ⟨A1,c1,e,hm1,hm2⟩:=q1o hu;have hm:xs.length≤9223372036854775807:=by unfold maxLen at hm2;omega
  obtain rfl:u=.slice A1 xs.length c1:=by simpa using e
  obtain ⟨A2,c2,e,_,_⟩:=q1o hv;obtain rfl:v=.slice A2 ys.length c2:=by simpa using e
  refine q0l Tryz.func63 rfl Tryz.ntmps63 rfl ?_;by_cases hl:xs.length=ys.length
  · (refine q0b<|q0a<|a_B rfl<|q0c<|tn<|q0b<|q0b<|q0a<|m_S rfl<|Ls (q0h rfl)<|m_S rfl<|Ls (q0h rfl)<|Ls (q3g rfl rfl (by omega))<|q0c<|tn<|q0q rfl<|q0o<|tn<|q0b<|q0b<|q0a<|a_I rfl<|q0c<|tn<|q0j ?_);refine q1k (fun q f w'=>∃ i,q=xs.length - i∧i≤xs.length∧f 0=.slice A1 xs.length c1∧f 1=.slice A2 ys.length c2∧f 5=.int .i64 (i:Nat)∧Ext w w'∧xs.take i=ys.take i) xs.length ?_ ?_
    · exact ⟨0,rfl,by omega,rfl,rfl,rfl,Ext.refl _,rfl⟩
    · rintro q f wr ⟨i,rfl,hi,f0,f1,f5,E,ht⟩;rw [fold f0,fold f1,fold f5];(refine q0b<|q0b<|q0a<|m_I rfl<|m_S rfl<|Ls (q0h rfl)<|Ls (q1w rfl rfl)<|q0c<|tn ?_);refine q1d rfl (fun h=>?_) (fun h=>?_)
      · have hi1:i < xs.length:=(by omega);obtain ⟨a,ha⟩:∃ a,xs[i]?=some a:=⟨_,List.getElem?_eq_getElem hi1⟩;obtain ⟨b,hb⟩:∃ b,ys[i]?=some b:=⟨_,List.getElem?_eq_getElem (by omega)⟩;obtain ⟨b1,o1,k1,y1,e1,_,_,hy1,hR1,hx1⟩:=q2z ((q1j (by decide) (z0c _)).ext hu E) ha;obtain ⟨b2,o2,k2,y2,e2,_,_,hy2,hR2,hx2⟩:=q2z ((q1j (by decide) (z0c _)).ext hv E) hb;cases e1
        cases e2
        obtain ⟨rfl,l1⟩:=hx1;obtain ⟨rfl,l2⟩:=hx2;have q1:=hx a (List.mem_of_getElem? ha);have q2:=hy b (List.mem_of_getElem? hb);(refine q0o<|tn<|q0b<|q0j<|q0b ?_);apply q1r 8 (by kernel_rfl);(apply DW_x (fun r w hA hH=>(q0d (v:=.slice _ _ _) rfl).trans rfl);apply DW_x (fun r w hA hH=>(q0d (v:=.int _ _) rfl).trans rfl);apply DW_x (fun r w hA hH=>(q0n rfl rfl (by omega)).trans rfl));((with_reducible apply DW_x);(exact fun r w hA hH=>(q2s (size:=32) (cs:=ints .u8 a) rfl (hA.range hR1) hy1).trans rfl));(apply DW_x (fun r w hA hH=>(q0d (v:=.slice _ _ _) rfl).trans rfl);apply DW_x (fun r w hA hH=>(q0d (v:=.int _ _) rfl).trans rfl);apply DW_x (fun r w hA hH=>(q0n rfl rfl (by omega)).trans rfl));((with_reducible apply DW_x);(exact fun r w hA hH=>(q2s (size:=32) (cs:=ints .u8 b) rfl (hA.range hR2) hy2).trans rfl));((with_reducible exact q2e);(exact rfl);(repeat (first | exact .inr (.inr (fun _ _=>by with_reducible rfl)) | (refine And.intro ?_ ?_) | exact .inr (.inl rfl) | exact .inl (by decide +kernel) | exact trivial | exact .inr (.inr (fun _ _=>rfl))));(try dsimp only [Nat.reduceAdd]));intro r w4 E4 _;by_cases hab:a=b
        · subst hab;(refine Ls (z4a l1 l2 q1 q2 rfl rfl rfl)<|q0c<|tn<|q0q rfl<|q0o<|bn<|tn<|q0a<|m_I rfl<|Ls (q1e rfl rfl (by omega))<|a_I rfl<|q0c<|tn ?_);exact ⟨xs.length - (i+1),by omega,i+1,rfl,by omega,rfl,rfl,rfl,E.trans E4,q4w ht ha hb⟩
        · (refine Ls (X_neqDT l1 l2 q1 q2 hab rfl rfl)<|q0c<|tn<|q0v rfl<|q0b<|q0a<|a_B rfl<|q0c<|tn<|q0r<|br<|tr<|tr<|br<|tr ?_);exact q0i rfl rfl (v:=.bool false) rfl ⟨false,rfl,⟨(fun h=>by cases h),fun h=>absurd (by rw [h,hb] at ha;exact (Option.some.inj ha).symm) hab⟩,E.trans E4⟩
      · obtain rfl:i=xs.length:=(by omega);(refine q1b<|te<|te<|bx<|tn<|q0b<|q0a<|a_B rfl<|q0c<|tn<|q0r ?_);rw [List.take_of_length_le (Nat.le_refl _),List.take_of_length_le (by omega)] at ht;exact q0i rfl rfl (v:=.bool true) rfl ⟨true,rfl,⟨fun _=>ht,fun _=>rfl⟩,E⟩
  · (refine q0b<|q0a<|a_B rfl<|q0c<|tn<|q0b<|q0b<|q0a<|m_S rfl<|Ls (q0h rfl)<|m_S rfl<|Ls (q0h rfl)<|Ls (q4d rfl rfl (by omega))<|q0c<|tn<|q0v rfl<|q0b<|q0a<|a_B rfl<|q0c<|tn<|q0r<|tr ?_);exact q0i rfl rfl (v:=.bool false) rfl ⟨false,rfl,⟨(fun h=>by cases h),fun h=>absurd (congrArg List.length h) hl⟩,Ext.refl _⟩
set_option maxRecDepth 100000 in
set_option maxHeartbeats 1000000 in
theorem s6same {N M:Nat→Prop} {u v:Value} {xs ys:List (List (Nat × Nat))} {w:World} (hu:slR 1 (slR 2 exR) N w [u] xs) (hv:slR 1 (slR 2 exR) M w [v] ys) (hx:∀ r∈xs,∀ e∈r,E64 e) (hy:∀ r∈ys,∀ e∈r,E64 e) :
    Calls Tryz.prog 61 #[u,v] w (q5t (xs=ys) w):=by
  obtain ⟨A1,c1,e,hm1,hm2⟩:=q1o hu;have hm:xs.length≤9223372036854775807:=by unfold maxLen at hm2;omega
  obtain rfl:u=.slice A1 xs.length c1:=by simpa using e
  obtain ⟨A2,c2,e,_,_⟩:=q1o hv;obtain rfl:v=.slice A2 ys.length c2:=by simpa using e
  refine q0l Tryz.func61 rfl Tryz.ntmps61 rfl ?_;by_cases hl:xs.length=ys.length
  · (refine q0b<|q0a<|a_B rfl<|q0c<|tn<|q0b<|q0b<|q0a<|m_S rfl<|Ls (q0h rfl)<|m_S rfl<|Ls (q0h rfl)<|Ls (q3g rfl rfl (by omega))<|q0c<|tn<|q0q rfl<|q0o<|tn<|q0b<|q0b<|q0a<|a_I rfl<|q0c<|tn<|q0j ?_);refine q1k (fun q f w'=>∃ i,q=xs.length - i∧i≤xs.length∧f 0=.slice A1 xs.length c1∧f 1=.slice A2 ys.length c2∧f 5=.int .i64 (i:Nat)∧Ext w w'∧xs.take i=ys.take i) xs.length ?_ ?_
    · exact ⟨0,rfl,by omega,rfl,rfl,rfl,Ext.refl _,rfl⟩
    · rintro q f wr ⟨i,rfl,hi,f0,f1,f5,E,ht⟩;rw [fold f0,fold f1,fold f5];(refine q0b<|q0b<|q0a<|m_I rfl<|m_S rfl<|Ls (q0h rfl)<|Ls (q1w rfl rfl)<|q0c<|tn ?_);refine q1d rfl (fun h=>?_) (fun h=>?_)
      · have hi1:i < xs.length:=(by omega);obtain ⟨a,ha⟩:∃ a,xs[i]?=some a:=⟨_,List.getElem?_eq_getElem hi1⟩;obtain ⟨b,hb⟩:∃ b,ys[i]?=some b:=⟨_,List.getElem?_eq_getElem (by omega)⟩;obtain ⟨b1,o1,k1,y1,e1,_,_,hy1,hR1,hx1⟩:=q2z ((q1j (by decide) q0y).ext hu E) ha;obtain ⟨b2,o2,k2,y2,e2,_,_,hy2,hR2,hx2⟩:=q2z ((q1j (by decide) q0y).ext hv E) hb;cases e1
        cases e2
        obtain ⟨u1,rfl⟩:=q2f hx1;obtain ⟨u2,rfl⟩:=q2f hx2;have q1:=q0y.one hx1 u1 (List.mem_singleton.2 rfl);have q2:=q0y.one hx2 u2 (List.mem_singleton.2 rfl);(refine q0o<|tn<|q0b<|q0j<|q0b ?_);apply q1r 8 (by kernel_rfl);(apply DW_x (fun r w hA hH=>(q0d (v:=.slice _ _ _) rfl).trans rfl);apply DW_x (fun r w hA hH=>(q0d (v:=.int _ _) rfl).trans rfl);apply DW_x (fun r w hA hH=>(q0n rfl rfl (by omega)).trans rfl));((with_reducible apply DW_x);(exact fun r w hA hH=>(q2l rfl (hA.range hR1) (j:=0) rfl rfl).trans rfl));(apply DW_x (fun r w hA hH=>(q0d (v:=.slice _ _ _) rfl).trans rfl);apply DW_x (fun r w hA hH=>(q0d (v:=.int _ _) rfl).trans rfl);apply DW_x (fun r w hA hH=>(q0n rfl rfl (by omega)).trans rfl));((with_reducible apply DW_x);(exact fun r w hA hH=>(q2l rfl (hA.range hR2) (j:=0) rfl rfl).trans rfl));((with_reducible exact q2e);(exact rfl);(repeat (first | exact .inr (.inr (fun _ _=>by with_reducible rfl)) | (refine And.intro ?_ ?_) | exact .inr (.inl rfl) | exact .inl (by decide +kernel) | exact trivial | exact .inr (.inr (fun _ _=>rfl))));(try dsimp only [Nat.reduceAdd]));intro r w4 E4 _;refine L_fn (s3same (q0y.ext hx1 E4) (q0y.ext hx2 E4) (hx a (List.mem_of_getElem? ha)) (hy b (List.mem_of_getElem? hb))) rfl ?_;rintro e w5 ⟨q,rfl,hq,E5⟩;refine ⟨_,rfl,?_⟩;cases q with
        | true =>
          have hab:a=b:=hq.1 rfl;subst hab;(refine Ls (q2d rfl)<|q0c<|tn<|q0q rfl<|q0o<|bn<|tn<|q0a<|m_I rfl<|Ls (q1e rfl rfl (by omega))<|a_I rfl<|q0c<|tn ?_);exact ⟨xs.length - (i+1),by omega,i+1,rfl,by omega,rfl,rfl,rfl,E.trans (E4.trans E5),q4w ht ha hb⟩
        | false =>
          have hab:a ≠ b:=fun h=>(by cases hq.2 h);(refine Ls (q2d rfl)<|q0c<|tn<|q0v rfl<|q0b<|q0a<|a_B rfl<|q0c<|tn<|q0r<|br<|tr<|tr<|br<|tr ?_);exact q0i rfl rfl (v:=.bool false) rfl ⟨false,rfl,⟨(fun h=>by cases h),fun h=>absurd (by rw [h,hb] at ha;exact (Option.some.inj ha).symm) hab⟩,E.trans (E4.trans E5)⟩
      · obtain rfl:i=xs.length:=(by omega);(refine q1b<|te<|te<|bx<|tn<|q0b<|q0a<|a_B rfl<|q0c<|tn<|q0r ?_);rw [List.take_of_length_le (Nat.le_refl _),List.take_of_length_le (by omega)] at ht;exact q0i rfl rfl (v:=.bool true) rfl ⟨true,rfl,⟨fun _=>ht,fun _=>rfl⟩,E⟩
  · (refine q0b<|q0a<|a_B rfl<|q0c<|tn<|q0b<|q0b<|q0a<|m_S rfl<|Ls (q0h rfl)<|m_S rfl<|Ls (q0h rfl)<|Ls (q4d rfl rfl (by omega))<|q0c<|tn<|q0v rfl<|q0b<|q0a<|a_B rfl<|q0c<|tn<|q0r<|tr ?_);exact q0i rfl rfl (v:=.bool false) rfl ⟨false,rfl,⟨(fun h=>by cases h),fun h=>absurd (congrArg List.length h) hl⟩,Ext.refl _⟩
set_option maxRecDepth 100000 in
set_option maxHeartbeats 1000000 in
theorem s16same {N M:Nat→Prop} {u v:Value} {xs ys:List (List Nat)} {w:World} (hu:slR 1 (slR 1 (numR .u64)) N w [u] xs) (hv:slR 1 (slR 1 (numR .u64)) M w [v] ys) :
    Calls Tryz.prog 64 #[u,v] w (q5t (xs=ys) w):=by
  obtain ⟨A1,c1,e,hm1,hm2⟩:=q1o hu;have hm:xs.length≤9223372036854775807:=by unfold maxLen at hm2;omega
  obtain rfl:u=.slice A1 xs.length c1:=by simpa using e
  obtain ⟨A2,c2,e,_,_⟩:=q1o hv;obtain rfl:v=.slice A2 ys.length c2:=by simpa using e
  refine q0l Tryz.func64 rfl Tryz.ntmps64 rfl ?_;by_cases hl:xs.length=ys.length
  · (refine q0b<|q0a<|a_B rfl<|q0c<|tn<|q0b<|q0b<|q0a<|m_S rfl<|Ls (q0h rfl)<|m_S rfl<|Ls (q0h rfl)<|Ls (q3g rfl rfl (by omega))<|q0c<|tn<|q0q rfl<|q0o<|tn<|q0b<|q0b<|q0a<|a_I rfl<|q0c<|tn<|q0j ?_);refine q1k (fun q f w'=>∃ i,q=xs.length - i∧i≤xs.length∧f 0=.slice A1 xs.length c1∧f 1=.slice A2 ys.length c2∧f 5=.int .i64 (i:Nat)∧Ext w w'∧xs.take i=ys.take i) xs.length ?_ ?_
    · exact ⟨0,rfl,by omega,rfl,rfl,rfl,Ext.refl _,rfl⟩
    · rintro q f wr ⟨i,rfl,hi,f0,f1,f5,E,ht⟩;rw [fold f0,fold f1,fold f5];(refine q0b<|q0b<|q0a<|m_I rfl<|m_S rfl<|Ls (q0h rfl)<|Ls (q1w rfl rfl)<|q0c<|tn ?_);refine q1d rfl (fun h=>?_) (fun h=>?_)
      · have hi1:i < xs.length:=(by omega);obtain ⟨a,ha⟩:∃ a,xs[i]?=some a:=⟨_,List.getElem?_eq_getElem hi1⟩;obtain ⟨b,hb⟩:∃ b,ys[i]?=some b:=⟨_,List.getElem?_eq_getElem (by omega)⟩;obtain ⟨b1,o1,k1,y1,e1,_,_,hy1,hR1,hx1⟩:=q2z ((q1j (by decide) (q1j (by decide) (q1y _))).ext hu E) ha;obtain ⟨b2,o2,k2,y2,e2,_,_,hy2,hR2,hx2⟩:=q2z ((q1j (by decide) (q1j (by decide) (q1y _))).ext hv E) hb;cases e1
        cases e2
        obtain ⟨u1,rfl⟩:=q2f hx1;obtain ⟨u2,rfl⟩:=q2f hx2;have q1:=(q1j (by decide) (q1y _)).one hx1 u1 (List.mem_singleton.2 rfl);have q2:=(q1j (by decide) (q1y _)).one hx2 u2 (List.mem_singleton.2 rfl);(refine q0o<|tn<|q0b<|q0j<|q0b ?_);apply q1r 8 (by kernel_rfl);(apply DW_x (fun r w hA hH=>(q0d (v:=.slice _ _ _) rfl).trans rfl);apply DW_x (fun r w hA hH=>(q0d (v:=.int _ _) rfl).trans rfl);apply DW_x (fun r w hA hH=>(q0n rfl rfl (by omega)).trans rfl));((with_reducible apply DW_x);(exact fun r w hA hH=>(q2l rfl (hA.range hR1) (j:=0) rfl rfl).trans rfl));(apply DW_x (fun r w hA hH=>(q0d (v:=.slice _ _ _) rfl).trans rfl);apply DW_x (fun r w hA hH=>(q0d (v:=.int _ _) rfl).trans rfl);apply DW_x (fun r w hA hH=>(q0n rfl rfl (by omega)).trans rfl));((with_reducible apply DW_x);(exact fun r w hA hH=>(q2l rfl (hA.range hR2) (j:=0) rfl rfl).trans rfl));((with_reducible exact q2e);(exact rfl);(repeat (first | exact .inr (.inr (fun _ _=>by with_reducible rfl)) | (refine And.intro ?_ ?_) | exact .inr (.inl rfl) | exact .inl (by decide +kernel) | exact trivial | exact .inr (.inr (fun _ _=>rfl))));(try dsimp only [Nat.reduceAdd]));intro r w4 E4 _;refine L_fn (s1same ((q1j (by decide) (q1y _)).ext hx1 E4) ((q1j (by decide) (q1y _)).ext hx2 E4)) rfl ?_;rintro e w5 ⟨q,rfl,hq,E5⟩;refine ⟨_,rfl,?_⟩;cases q with
        | true =>
          have hab:a=b:=hq.1 rfl;subst hab;(refine Ls (q2d rfl)<|q0c<|tn<|q0q rfl<|q0o<|bn<|tn<|q0a<|m_I rfl<|Ls (q1e rfl rfl (by omega))<|a_I rfl<|q0c<|tn ?_);exact ⟨xs.length - (i+1),by omega,i+1,rfl,by omega,rfl,rfl,rfl,E.trans (E4.trans E5),q4w ht ha hb⟩
        | false =>
          have hab:a ≠ b:=fun h=>(by cases hq.2 h);(refine Ls (q2d rfl)<|q0c<|tn<|q0v rfl<|q0b<|q0a<|a_B rfl<|q0c<|tn<|q0r<|br<|tr<|tr<|br<|tr ?_);exact q0i rfl rfl (v:=.bool false) rfl ⟨false,rfl,⟨(fun h=>by cases h),fun h=>absurd (by rw [h,hb] at ha;exact (Option.some.inj ha).symm) hab⟩,E.trans (E4.trans E5)⟩
      · obtain rfl:i=xs.length:=(by omega);(refine q1b<|te<|te<|bx<|tn<|q0b<|q0a<|a_B rfl<|q0c<|tn<|q0r ?_);rw [List.take_of_length_le (Nat.le_refl _),List.take_of_length_le (by omega)] at ht;exact q0i rfl rfl (v:=.bool true) rfl ⟨true,rfl,⟨fun _=>ht,fun _=>rfl⟩,E⟩
  · (refine q0b<|q0a<|a_B rfl<|q0c<|tn<|q0b<|q0b<|q0a<|m_S rfl<|Ls (q0h rfl)<|m_S rfl<|Ls (q0h rfl)<|Ls (q4d rfl rfl (by omega))<|q0c<|tn<|q0v rfl<|q0b<|q0a<|a_B rfl<|q0c<|tn<|q0r<|tr ?_);exact q0i rfl rfl (v:=.bool false) rfl ⟨false,rfl,⟨(fun h=>by cases h),fun h=>absurd (congrArg List.length h) hl⟩,Ext.refl _⟩
theorem q5t.t {id:FuncId} {a:Array Value} {p:Prop} {w:World} (c:Calls Tryz.prog id a w (q5t p w)) (hp:p):Calls Tryz.prog id a w fun e w'=>e=.returned (.bool true)∧Ext w w' :=
  c.mono fun e w' ⟨q,he,hq,E⟩=>⟨by rw [he,hq.2 hp],E⟩
theorem q5t.f {id:FuncId} {a:Array Value} {p:Prop} {w:World} (c:Calls Tryz.prog id a w (q5t p w)) (hp:¬ p):Calls Tryz.prog id a w fun e w'=>e=.returned (.bool false)∧Ext w w' :=
  c.mono fun e w' ⟨q,he,hq,E⟩=>⟨by
    cases q with
    | false=>exact he
    | true=>exact absurd (hq.1 rfl) hp,E⟩
theorem z0r {w:World} {b o k:Nat} {cs l:List Value} (h:w.rangeAt b o cs) (hl:∀ (j:Nat) u,l[j]?=some u→cs[k+j]?=some u):w.rangeAt b (o+k) l:=fun j u hu=>by
  have:=h (k+j) u (hl j u hu);rwa [← Nat.add_assoc] at this
theorem ex_in {cs:List Value} {k a b:Nat} (h0:cs[k]?=some (.int .u64 (a:Nat))) (h1:cs[k+1]?=some (.int .u64 (b:Nat))):∀ (j:Nat) u,(exC a b)[j]?=some u→cs[k+j]?=some u
  | 0,u,h=>by cases h;exact h0
  | 1,u,h=>by cases h;exact h1
  | j+2,u,h=>by cases h
structure LpE (p:Ce.LP):Prop where
  r:∀ r∈p.rounds,∀ e∈r,E64 e
  l:E64 p.left
  t:E64 p.right
  n:∀ e∈p.line,E64 e
theorem lp_eq {a b:Ce.LP}:a=b↔a.rounds=b.rounds∧a.left=b.left∧a.right=b.right∧a.line=b.line:=by
  constructor
  · rintro rfl;exact ⟨rfl,rfl,rfl,rfl⟩
  · rintro ⟨h1,h2,h3,h4⟩;cases a
    cases b
    simp_all
set_option maxRecDepth 100000 in
set_option maxHeartbeats 2000000 in
theorem s20layers {N M:Nat→Prop} {u v:Value} {xs ys:List Ce.LP} {w:World} (hu:slR 6 lpR N w [u] xs) (hv:slR 6 lpR M w [v] ys) (hx:∀ p∈xs,LpE p) (hy:∀ p∈ys,LpE p) :
    Calls Tryz.prog 94 #[u,v] w (q5t (xs=ys) w):=by
  obtain ⟨A1,c1,e,hm1,hm2⟩:=q1o hu;have hm:xs.length≤9223372036854775807:=by unfold maxLen at hm2;omega
  obtain rfl:u=.slice A1 xs.length c1:=by simpa using e
  obtain ⟨A2,c2,e,_,_⟩:=q1o hv;obtain rfl:v=.slice A2 ys.length c2:=by simpa using e
  refine q0l Tryz.func94 rfl Tryz.ntmps94 rfl ?_;by_cases hl:xs.length=ys.length
  · (refine q0b<|q0a<|a_B rfl<|q0c<|tn<|q0b<|q0b<|q0a<|m_S rfl<|Ls (q0h rfl)<|m_S rfl<|Ls (q0h rfl)<|Ls (q3g rfl rfl (by omega))<|q0c<|tn<|q0q rfl<|q0o<|tn<|q0b<|q0b<|q0a<|a_I rfl<|q0c<|tn<|q0j ?_);refine q1k (fun q f w'=>∃ i,q=xs.length - i∧i≤xs.length∧f 0=.slice A1 xs.length c1∧f 1=.slice A2 ys.length c2∧f 5=.int .i64 (i:Nat)∧Ext w w'∧xs.take i=ys.take i) xs.length ?_ ?_
    · exact ⟨0,rfl,by omega,rfl,rfl,rfl,Ext.refl _,rfl⟩
    · rintro q f wr ⟨i,rfl,hi,f0,f1,f5,E,ht⟩;rw [fold f0,fold f1,fold f5];(refine q0b<|q0b<|q0a<|m_I rfl<|m_S rfl<|Ls (q0h rfl)<|Ls (q1w rfl rfl)<|q0c<|tn ?_);refine q1d rfl (fun h=>?_) (fun h=>?_)
      · have hi1:i < xs.length:=(by omega);obtain ⟨a,ha⟩:∃ a,xs[i]?=some a:=⟨_,List.getElem?_eq_getElem hi1⟩;obtain ⟨b,hb⟩:∃ b,ys[i]?=some b:=⟨_,List.getElem?_eq_getElem (by omega)⟩;obtain ⟨b1,o1,k1,y1,e1,_,_,hy1,hR1,hx1⟩:=q2z ((q1j (by decide) q4v).ext hu E) ha;obtain ⟨b2,o2,k2,y2,e2,_,_,hy2,hR2,hx2⟩:=q2z ((q1j (by decide) q4v).ext hv E) hb;cases e1
        cases e2
        obtain ⟨u1,v1,rfl,hr1,hn1⟩:=hx1;obtain ⟨u2,v2,rfl,hr2,hn2⟩:=hx2;have q1:=q1i.one hr1 u1 (List.mem_singleton.2 rfl);have q2:=q1i.one hr2 u2 (List.mem_singleton.2 rfl);have p1:=q0y.one hn1 v1 (List.mem_singleton.2 rfl);have p2:=q0y.one hn2 v2 (List.mem_singleton.2 rfl);have oa:=hx a (List.mem_of_getElem? ha);have ob:=hy b (List.mem_of_getElem? hb);have L1:=z0r (k:=1) hR1 (ex_in (a:=a.left.1) (b:=a.left.2) rfl rfl);have L2:=z0r (k:=1) hR2 (ex_in (a:=b.left.1) (b:=b.left.2) rfl rfl);have T1:=z0r (k:=3) hR1 (ex_in (a:=a.right.1) (b:=a.right.2) rfl rfl);have T2:=z0r (k:=3) hR2 (ex_in (a:=b.right.1) (b:=b.right.2) rfl rfl);have hc:=fun (w':World) (E':Ext wr w')=>s6same (w:=w') (q1i.ext hr1 E') (q1i.ext hr2 E') oa.r ob.r;by_cases h1:a.rounds=b.rounds
        · by_cases h2:a.left=b.left
          · by_cases h3:a.right=b.right
            · (refine q0o<|tn<|q0b<|q0j<|q0b ?_);apply q1r 49 (by kernel_rfl);(apply DW_x (fun r w hA hH=>(q0d (v:=.slice _ _ _) rfl).trans rfl);apply DW_x (fun r w hA hH=>(q0d (v:=.int _ _) rfl).trans rfl);apply DW_x (fun r w hA hH=>(q0n rfl rfl (by omega)).trans rfl);apply DW_x (fun r w hA hH=>(q0g rfl).trans rfl);apply DW_x (fun r w hA hH=>(q2l rfl (hA.range hR1) (j:=0) rfl rfl).trans rfl);apply DW_x (fun r w hA hH=>(q0d (v:=.slice _ _ _) rfl).trans rfl);apply DW_x (fun r w hA hH=>(q0d (v:=.int _ _) rfl).trans rfl);apply DW_x (fun r w hA hH=>(q0n rfl rfl (by omega)).trans rfl);apply DW_x (fun r w hA hH=>(q0g rfl).trans rfl);apply DW_x (fun r w hA hH=>(q2l rfl (hA.range hR2) (j:=0) rfl rfl).trans rfl));((with_reducible apply q4r);(exact fun _=>rfl);(exact fun _=>rfl);(exact fun r w hA hH=>q5t.t (hc _ hA) h1));repeat (first | ((with_reducible apply d_move);(first | ((with_reducible apply d_ng);apply DW_x (fun r w hA hH=>(q0d (v:=.bool _) rfl).trans rfl)) | ((with_reducible apply d_gd);(first | apply q1f rfl rfl (fun _=>rfl) (fun r w hA hH=>(q0d (v:=.int _ _) rfl).trans rfl) | apply q1f rfl rfl (fun _=>rfl) (fun r w hA hH=>(q0d (v:=.slice _ _ _) rfl).trans rfl))))) | ((with_reducible apply d_neq);((with_reducible apply d_gd);(first | apply q1f rfl rfl (fun _=>rfl) (fun r w hA hH=>(q8s oa.t ob.t h3 rfl rfl).trans rfl) | apply q1f rfl rfl (fun _=>rfl) (fun r w hA hH=>(q8s oa.l ob.l h2 rfl rfl).trans rfl)))) | ((with_reducible apply d_unot);((with_reducible apply d_ng);apply DW_x (fun r w hA hH=>(q2d rfl).trans rfl))) | ((with_reducible apply d_fld);((with_reducible apply d_gd);apply q1f rfl rfl (fun _=>rfl) (fun r w hA hH=>(q0g rfl).trans rfl))) | ((with_reducible apply d_pick);((with_reducible apply d_ng);apply DW_x (fun r w hA hH=>(q0p (v:=.bool _) rfl rfl).trans rfl))) | ((with_reducible apply d_load);((with_reducible apply d_gd);(first | apply q1f rfl rfl (fun _=>rfl) (fun r w hA hH=>(q2s (size:=2) rfl (hA.range L1) rfl).trans rfl) | apply q1f rfl rfl (fun _=>rfl) (fun r w hA hH=>(q2s (size:=2) rfl (hA.range L2) rfl).trans rfl) | apply q1f rfl rfl (fun _=>rfl) (fun r w hA hH=>(q2s (size:=2) rfl (hA.range T1) rfl).trans rfl) | apply q1f rfl rfl (fun _=>rfl) (fun r w hA hH=>(q2s (size:=2) rfl (hA.range T2) rfl).trans rfl) | apply q1f rfl rfl (fun _=>rfl) (fun r w hA hH=>(q2l rfl (hA.range hR1) (j:=5) rfl rfl).trans rfl) | apply q1f rfl rfl (fun _=>rfl) (fun r w hA hH=>(q2l rfl (hA.range hR2) (j:=5) rfl rfl).trans rfl)))) | ((with_reducible apply d_idx);((with_reducible apply d_gd);apply q1f rfl rfl (fun _=>rfl) (fun r w hA hH=>(q0n rfl rfl (by omega)).trans rfl))))
              ((with_reducible exact q2e);(exact rfl);(repeat (first | exact .inr (.inr (fun _ _=>by with_reducible rfl)) | (refine And.intro ?_ ?_) | exact .inr (.inl rfl) | exact .inl (by decide +kernel) | exact trivial | exact .inr (.inr (fun _ _=>rfl))));(try dsimp only [Nat.reduceAdd]));intro r w4 E4 _;refine q2h rfl rfl rfl ?_;refine L_fn (s2same (q0y.ext hn1 E4) (q0y.ext hn2 E4) oa.n ob.n) rfl ?_;rintro e w5 ⟨q,rfl,hq,E5⟩;refine ⟨_,rfl,?_⟩;cases q with
              | true =>
                have hab:a=b:=lp_eq.2 ⟨h1,h2,h3,hq.1 rfl⟩;subst hab;(refine Lg2 rfl rfl rfl (q2d rfl)<|Ls (q0p (v:=.bool _) rfl rfl)<|q0c<|tn<|q0q rfl<|q0o<|bn<|tn<|q0a<|m_I rfl<|Ls (q1e rfl rfl (by omega))<|a_I rfl<|q0c<|tn ?_);exact ⟨xs.length - (i+1),by omega,i+1,rfl,by omega,rfl,rfl,rfl,E.trans (E4.trans E5),q4w ht ha hb⟩
              | false =>
                have hab:a ≠ b:=fun h=>(by cases hq.2 (lp_eq.1 h).2.2.2);(refine Lg2 rfl rfl rfl (q2d rfl)<|Ls (q0p (v:=.bool _) rfl rfl)<|q0c<|tn<|q0v rfl<|q0b<|q0a<|a_B rfl<|q0c<|tn<|q0r<|br<|tr<|tr<|br<|tr ?_);exact q0i rfl rfl (v:=.bool false) rfl ⟨false,rfl,⟨(fun h=>by cases h),fun h=>absurd (by rw [h,hb] at ha;exact (Option.some.inj ha).symm) hab⟩,E.trans (E4.trans E5)⟩
            · have hab:a ≠ b:=fun h=>h3 (lp_eq.1 h).2.2.1;(refine q0o<|tn<|q0b<|q0j<|q0b ?_);apply q1r 52 (by kernel_rfl);(apply DW_x (fun r w hA hH=>(q0d (v:=.slice _ _ _) rfl).trans rfl);apply DW_x (fun r w hA hH=>(q0d (v:=.int _ _) rfl).trans rfl);apply DW_x (fun r w hA hH=>(q0n rfl rfl (by omega)).trans rfl);apply DW_x (fun r w hA hH=>(q0g rfl).trans rfl);apply DW_x (fun r w hA hH=>(q2l rfl (hA.range hR1) (j:=0) rfl rfl).trans rfl);apply DW_x (fun r w hA hH=>(q0d (v:=.slice _ _ _) rfl).trans rfl);apply DW_x (fun r w hA hH=>(q0d (v:=.int _ _) rfl).trans rfl);apply DW_x (fun r w hA hH=>(q0n rfl rfl (by omega)).trans rfl);apply DW_x (fun r w hA hH=>(q0g rfl).trans rfl);apply DW_x (fun r w hA hH=>(q2l rfl (hA.range hR2) (j:=0) rfl rfl).trans rfl));((with_reducible apply q4r);(exact fun _=>rfl);(exact fun _=>rfl);(exact fun r w hA hH=>q5t.t (hc _ hA) h1));repeat (first | ((with_reducible apply d_move);(first | ((with_reducible apply d_ng);apply DW_x (fun r w hA hH=>(q0d (v:=.bool _) rfl).trans rfl)) | ((with_reducible apply d_gd);(first | apply q1f rfl rfl (fun _=>rfl) (fun r w hA hH=>(q0d (v:=.int _ _) rfl).trans rfl) | apply q1f rfl rfl (fun _=>rfl) (fun r w hA hH=>(q0d (v:=.slice _ _ _) rfl).trans rfl))))) | ((with_reducible apply d_neq);((with_reducible apply d_gd);(first | apply q1f rfl rfl (fun _=>rfl) (fun r w hA hH=>(z0g oa.t ob.t h3 rfl rfl).trans rfl) | apply q1f rfl rfl (fun _=>rfl) (fun r w hA hH=>(q8s oa.l ob.l h2 rfl rfl).trans rfl)))) | ((with_reducible apply d_unot);((with_reducible apply d_ng);apply DW_x (fun r w hA hH=>(q2d rfl).trans rfl))) | ((with_reducible apply d_fld);((with_reducible apply d_gd);apply q1f rfl rfl (fun _=>rfl) (fun r w hA hH=>(q0g rfl).trans rfl))) | ((with_reducible apply d_pick);((with_reducible apply d_ng);(first | apply DW_x (fun r w hA hH=>(q0k (v:=.bool _) rfl rfl).trans rfl) | apply DW_x (fun r w hA hH=>(q0p (v:=.bool _) rfl rfl).trans rfl)))) | ((with_reducible apply d_load);((with_reducible apply d_gd);(first | apply q1f rfl rfl (fun _=>rfl) (fun r w hA hH=>(q2s (size:=2) rfl (hA.range L1) rfl).trans rfl) | apply q1f rfl rfl (fun _=>rfl) (fun r w hA hH=>(q2s (size:=2) rfl (hA.range L2) rfl).trans rfl) | apply q1f rfl rfl (fun _=>rfl) (fun r w hA hH=>(q2s (size:=2) rfl (hA.range T1) rfl).trans rfl) | apply q1f rfl rfl (fun _=>rfl) (fun r w hA hH=>(q2s (size:=2) rfl (hA.range T2) rfl).trans rfl)))) | ((with_reducible apply d_idx);((with_reducible apply d_gd);apply q1f rfl rfl (fun _=>rfl) (fun r w hA hH=>(q0n rfl rfl (by omega)).trans rfl))) | ((with_reducible apply d_gd);apply q0x rfl rfl (fun _=>rfl) rfl))
              ((with_reducible exact q2e);(exact rfl);(repeat (first | exact .inr (.inr (fun _ _=>by with_reducible rfl)) | (refine And.intro ?_ ?_) | exact .inr (.inl rfl) | exact .inl (by decide +kernel) | exact trivial | exact .inr (.inr (fun _ _=>rfl))));(try dsimp only [Nat.reduceAdd]));intro r w4 E4 _;(refine q0c<|tn<|q0v rfl<|q0b<|q0a<|a_B rfl<|q0c<|tn<|q0r<|br<|tr<|tr<|br<|tr ?_);exact q0i rfl rfl (v:=.bool false) rfl ⟨false,rfl,⟨(fun h=>by cases h),fun h=>absurd (by rw [h,hb] at ha;exact (Option.some.inj ha).symm) hab⟩,E.trans E4⟩
          · have hab:a ≠ b:=fun h=>h2 (lp_eq.1 h).2.1;(refine q0o<|tn<|q0b<|q0j<|q0b ?_);apply q1r 52 (by kernel_rfl);(apply DW_x (fun r w hA hH=>(q0d (v:=.slice _ _ _) rfl).trans rfl);apply DW_x (fun r w hA hH=>(q0d (v:=.int _ _) rfl).trans rfl);apply DW_x (fun r w hA hH=>(q0n rfl rfl (by omega)).trans rfl);apply DW_x (fun r w hA hH=>(q0g rfl).trans rfl);apply DW_x (fun r w hA hH=>(q2l rfl (hA.range hR1) (j:=0) rfl rfl).trans rfl);apply DW_x (fun r w hA hH=>(q0d (v:=.slice _ _ _) rfl).trans rfl);apply DW_x (fun r w hA hH=>(q0d (v:=.int _ _) rfl).trans rfl);apply DW_x (fun r w hA hH=>(q0n rfl rfl (by omega)).trans rfl);apply DW_x (fun r w hA hH=>(q0g rfl).trans rfl);apply DW_x (fun r w hA hH=>(q2l rfl (hA.range hR2) (j:=0) rfl rfl).trans rfl));((with_reducible apply q4r);(exact fun _=>rfl);(exact fun _=>rfl);(exact fun r w hA hH=>q5t.t (hc _ hA) h1));repeat (first | ((with_reducible apply d_move);(first | ((with_reducible apply d_ng);apply DW_x (fun r w hA hH=>(q0d (v:=.bool _) rfl).trans rfl)) | ((with_reducible apply d_gd);(first | apply q1f rfl rfl (fun _=>rfl) (fun r w hA hH=>(q0d (v:=.int _ _) rfl).trans rfl) | apply q1f rfl rfl (fun _=>rfl) (fun r w hA hH=>(q0d (v:=.slice _ _ _) rfl).trans rfl))))) | ((with_reducible apply d_neq);((with_reducible apply d_gd);apply q1f rfl rfl (fun _=>rfl) (fun r w hA hH=>(z0g oa.l ob.l h2 rfl rfl).trans rfl))) | ((with_reducible apply d_unot);((with_reducible apply d_ng);apply DW_x (fun r w hA hH=>(q2d rfl).trans rfl))) | ((with_reducible apply d_fld);((with_reducible apply d_gd);apply q1f rfl rfl (fun _=>rfl) (fun r w hA hH=>(q0g rfl).trans rfl))) | ((with_reducible apply d_pick);((with_reducible apply d_ng);(first | apply DW_x (fun r w hA hH=>(q0k (v:=.bool _) rfl rfl).trans rfl) | apply DW_x (fun r w hA hH=>(q0p (v:=.bool _) rfl rfl).trans rfl)))) | ((with_reducible apply d_load);((with_reducible apply d_gd);(first | apply q1f rfl rfl (fun _=>rfl) (fun r w hA hH=>(q2s (size:=2) rfl (hA.range L1) rfl).trans rfl) | apply q1f rfl rfl (fun _=>rfl) (fun r w hA hH=>(q2s (size:=2) rfl (hA.range L2) rfl).trans rfl)))) | ((with_reducible apply d_idx);((with_reducible apply d_gd);apply q1f rfl rfl (fun _=>rfl) (fun r w hA hH=>(q0n rfl rfl (by omega)).trans rfl))) | ((with_reducible apply d_gd);apply q0x rfl rfl (fun _=>rfl) rfl))
            ((with_reducible exact q2e);(exact rfl);(repeat (first | exact .inr (.inr (fun _ _=>by with_reducible rfl)) | (refine And.intro ?_ ?_) | exact .inr (.inl rfl) | exact .inl (by decide +kernel) | exact trivial | exact .inr (.inr (fun _ _=>rfl))));(try dsimp only [Nat.reduceAdd]));intro r w4 E4 _;(refine q0c<|tn<|q0v rfl<|q0b<|q0a<|a_B rfl<|q0c<|tn<|q0r<|br<|tr<|tr<|br<|tr ?_);exact q0i rfl rfl (v:=.bool false) rfl ⟨false,rfl,⟨(fun h=>by cases h),fun h=>absurd (by rw [h,hb] at ha;exact (Option.some.inj ha).symm) hab⟩,E.trans E4⟩
        · have hab:a ≠ b:=fun h=>h1 (lp_eq.1 h).1;(refine q0o<|tn<|q0b<|q0j<|q0b ?_);apply q1r 52 (by kernel_rfl);(apply DW_x (fun r w hA hH=>(q0d (v:=.slice _ _ _) rfl).trans rfl);apply DW_x (fun r w hA hH=>(q0d (v:=.int _ _) rfl).trans rfl);apply DW_x (fun r w hA hH=>(q0n rfl rfl (by omega)).trans rfl);apply DW_x (fun r w hA hH=>(q0g rfl).trans rfl);apply DW_x (fun r w hA hH=>(q2l rfl (hA.range hR1) (j:=0) rfl rfl).trans rfl);apply DW_x (fun r w hA hH=>(q0d (v:=.slice _ _ _) rfl).trans rfl);apply DW_x (fun r w hA hH=>(q0d (v:=.int _ _) rfl).trans rfl);apply DW_x (fun r w hA hH=>(q0n rfl rfl (by omega)).trans rfl);apply DW_x (fun r w hA hH=>(q0g rfl).trans rfl);apply DW_x (fun r w hA hH=>(q2l rfl (hA.range hR2) (j:=0) rfl rfl).trans rfl));((with_reducible apply q4r);(exact fun _=>rfl);(exact fun _=>rfl);(exact fun r w hA hH=>q5t.f (hc _ hA) h1));(apply DW_x (fun r w hA hH=>(q2d rfl).trans rfl);apply DW_x (fun r w hA hH=>(q0d (v:=.bool _) rfl).trans rfl);apply q0x rfl rfl (fun _=>rfl) rfl;apply q0x rfl rfl (fun _=>rfl) rfl;apply q0x rfl rfl (fun _=>rfl) rfl;apply q0x rfl rfl (fun _=>rfl) rfl;apply q0x rfl rfl (fun _=>rfl) rfl;apply q0x rfl rfl (fun _=>rfl) rfl;apply q0x rfl rfl (fun _=>rfl) rfl;apply q0x rfl rfl (fun _=>rfl) rfl;apply q0x rfl rfl (fun _=>rfl) rfl;apply q0x rfl rfl (fun _=>rfl) rfl;apply q0x rfl rfl (fun _=>rfl) rfl;apply DW_x (fun r w hA hH=>(q0k (v:=.bool _) rfl rfl).trans rfl);apply DW_x (fun r w hA hH=>(q0d (v:=.bool _) rfl).trans rfl);apply q0x rfl rfl (fun _=>rfl) rfl;apply q0x rfl rfl (fun _=>rfl) rfl;apply q0x rfl rfl (fun _=>rfl) rfl;apply q0x rfl rfl (fun _=>rfl) rfl;apply q0x rfl rfl (fun _=>rfl) rfl;apply q0x rfl rfl (fun _=>rfl) rfl;apply q0x rfl rfl (fun _=>rfl) rfl;apply q0x rfl rfl (fun _=>rfl) rfl;apply q0x rfl rfl (fun _=>rfl) rfl;apply q0x rfl rfl (fun _=>rfl) rfl;apply q0x rfl rfl (fun _=>rfl) rfl;apply DW_x (fun r w hA hH=>(q0k (v:=.bool _) rfl rfl).trans rfl);apply DW_x (fun r w hA hH=>(q0d (v:=.bool _) rfl).trans rfl);apply q0x rfl rfl (fun _=>rfl) rfl;apply q0x rfl rfl (fun _=>rfl) rfl;apply q0x rfl rfl (fun _=>rfl) rfl;apply q0x rfl rfl (fun _=>rfl) rfl;apply q0x rfl rfl (fun _=>rfl) rfl;apply q0x rfl rfl (fun _=>rfl) rfl;apply q0x rfl rfl (fun _=>rfl) rfl;apply q0x rfl rfl (fun _=>rfl) rfl;apply q0x rfl rfl (fun _=>rfl) rfl;apply q0x rfl rfl (fun _=>rfl) rfl;apply q0x rfl rfl (fun _=>rfl) rfl;apply q0x rfl rfl (fun _=>rfl) rfl;apply DW_x (fun r w hA hH=>(q0k (v:=.bool _) rfl rfl).trans rfl));((with_reducible exact q2e);(exact rfl);(repeat (first | exact .inr (.inr (fun _ _=>by with_reducible rfl)) | (refine And.intro ?_ ?_) | exact .inr (.inl rfl) | exact .inl (by decide +kernel) | exact trivial | exact .inr (.inr (fun _ _=>rfl))));(try dsimp only [Nat.reduceAdd]));intro r w4 E4 _;(refine q0c<|tn<|q0v rfl<|q0b<|q0a<|a_B rfl<|q0c<|tn<|q0r<|br<|tr<|tr<|br<|tr ?_);exact q0i rfl rfl (v:=.bool false) rfl ⟨false,rfl,⟨(fun h=>by cases h),fun h=>absurd (by rw [h,hb] at ha;exact (Option.some.inj ha).symm) hab⟩,E.trans E4⟩
      · obtain rfl:i=xs.length:=(by omega);(refine q1b<|te<|te<|bx<|tn<|q0b<|q0a<|a_B rfl<|q0c<|tn<|q0r ?_);rw [List.take_of_length_le (Nat.le_refl _),List.take_of_length_le (by omega)] at ht;exact q0i rfl rfl (v:=.bool true) rfl ⟨true,rfl,⟨fun _=>ht,fun _=>rfl⟩,E⟩
  · (refine q0b<|q0a<|a_B rfl<|q0c<|tn<|q0b<|q0b<|q0a<|m_S rfl<|Ls (q0h rfl)<|m_S rfl<|Ls (q0h rfl)<|Ls (q4d rfl rfl (by omega))<|q0c<|tn<|q0v rfl<|q0b<|q0a<|a_B rfl<|q0c<|tn<|q0r<|tr ?_);exact q0i rfl rfl (v:=.bool false) rfl ⟨false,rfl,⟨(fun h=>by cases h),fun h=>absurd (congrArg List.length h) hl⟩,Ext.refl _⟩
set_option maxRecDepth 100000 in
set_option maxHeartbeats 2000000 in
theorem s20same {N M:Nat→Prop} {a1 a2 a3 b1 b2 b3:Value} {r1 r2:List (List (Nat × Nat))} {s1 s2 z1 z2:List Ce.LP} {w:World} (ha1:slR 1 (slR 2 exR) N w [a1] r1) (ha2:slR 6 lpR N w [a2] s1) (ha3:slR 6 lpR N w [a3] z1) (hb1:slR 1 (slR 2 exR) M w [b1] r2) (hb2:slR 6 lpR M w [b2] s2) (hb3:slR 6 lpR M w [b3] z2)
    (hr1:∀ r∈r1,∀ e∈r,E64 e) (hr2:∀ r∈r2,∀ e∈r,E64 e) (hs1:∀ p∈s1,LpE p) (hs2:∀ p∈s2,LpE p) (hz1:∀ p∈z1,LpE p) (hz2:∀ p∈z2,LpE p) :
    Calls Tryz.prog 60 #[.agg [a1,a2,a3].toArray,.agg [b1,b2,b3].toArray] w (q5t (r1=r2∧s1=s2∧z1=z2) w):=by
  refine q0l Tryz.func60 rfl Tryz.ntmps60 rfl ?_;have pa1:=q1i.one ha1 a1 (List.mem_singleton.2 rfl);have pb1:=q1i.one hb1 b1 (List.mem_singleton.2 rfl);have pa2:=q1t.one ha2 a2 (List.mem_singleton.2 rfl);have pb2:=q1t.one hb2 b2 (List.mem_singleton.2 rfl);have pa3:=q1t.one ha3 a3 (List.mem_singleton.2 rfl);have pb3:=q1t.one hb3 b3 (List.mem_singleton.2 rfl);(refine q0b<|q0a ?_);refine q3t (l:=[a1,a2,a3]) rfl ?_;intro g2 w2 B2 hg2 E2 hw2;skip;refine q3t (l:=[b1,b2,b3]) rfl ?_;intro g3 w3 B3 hg3 E3 hw3;have B2:=B2.ext E3;have E:=E2.trans E3;(refine a_B rfl<|q0c<|tn<|q0b<|q0a<|Ls (q0g rfl)<|Ls (X_ld rfl B2 rfl)<|Ls (q0g rfl)<|Ls (X_ld rfl B3 rfl) ?_);refine L_fn (s6same (q1i.ext ha1 E) (q1i.ext hb1 E) hr1 hr2) rfl ?_;rintro e w4 ⟨q,rfl,hq,E4⟩;refine ⟨_,rfl,?_⟩;have E:=E.trans E4;have B2:=B2.ext E4;have B3:=B3.ext E4;cases q with
  | false =>
    (refine m_B rfl<|Lo2 rfl rfl rfl rfl<|Lo2 rfl rfl rfl rfl<|Lo2 rfl rfl rfl rfl<|Lo2 rfl rfl rfl rfl<|Lo2 rfl rfl rfl rfl<|Ls (q0p (v:=.bool _) rfl rfl)<|m_B rfl<|Lo2 rfl rfl rfl rfl<|Lo2 rfl rfl rfl rfl<|Lo2 rfl rfl rfl rfl<|Lo2 rfl rfl rfl rfl<|Lo2 rfl rfl rfl rfl<|Ls (q0p (v:=.bool _) rfl rfl)<|a_B rfl<|q0c<|tn<|q0r ?_);exact q0i rfl rfl (v:=.bool false) rfl ⟨false,rfl,⟨(fun h=>by cases h),fun h=>by cases hq.2 h.1⟩,E⟩
  | true =>
  (refine m_B rfl<|Lg2 rfl rfl rfl (q0g rfl)<|Lg2 rfl rfl rfl (X_ld rfl B2 rfl)<|Lg2 rfl rfl rfl (q0g rfl)<|Lg2 rfl rfl rfl (X_ld rfl B3 rfl) ?_);refine q2h rfl rfl rfl ?_;refine L_fn (s20layers (q1t.ext ha2 E) (q1t.ext hb2 E) hs1 hs2) rfl ?_;rintro e w5 ⟨q',rfl,hq',E5⟩;refine ⟨_,rfl,?_⟩;have E:=E.trans E5;have B2:=B2.ext E5;have B3:=B3.ext E5;cases q' with
  | false =>
    (refine Ls (q0k (v:=.bool _) rfl rfl)<|m_B rfl<|Lo2 rfl rfl rfl rfl<|Lo2 rfl rfl rfl rfl<|Lo2 rfl rfl rfl rfl<|Lo2 rfl rfl rfl rfl<|Lo2 rfl rfl rfl rfl<|Ls (q0p (v:=.bool _) rfl rfl)<|a_B rfl<|q0c<|tn<|q0r ?_);exact q0i rfl rfl (v:=.bool false) rfl ⟨false,rfl,⟨(fun h=>by cases h),fun h=>by cases hq'.2 h.2.1⟩,E⟩
  | true =>
  (refine Ls (q0k (v:=.bool _) rfl rfl)<|m_B rfl<|Lg2 rfl rfl rfl (q0g rfl)<|Lg2 rfl rfl rfl (X_ld rfl B2 rfl)<|Lg2 rfl rfl rfl (q0g rfl)<|Lg2 rfl rfl rfl (X_ld rfl B3 rfl) ?_);refine q2h rfl rfl rfl ?_;refine L_fn (s20layers (q1t.ext ha3 E) (q1t.ext hb3 E) hz1 hz2) rfl ?_;rintro e w6 ⟨p,rfl,hp,E6⟩;refine ⟨_,rfl,?_⟩;(refine Ls (q0k (v:=.bool _) rfl rfl)<|a_B rfl<|q0c<|tn<|q0r ?_);exact q0i rfl rfl (v:=.bool p) rfl ⟨p,rfl,⟨fun h=>⟨hq.1 rfl,hq'.1 rfl,hp.1 h⟩,fun h=>hp.2 h.2.2⟩,E.trans E6⟩
end Go.Proofs.YtbolofkandcnlaaGreatDoor
namespace Go.Proofs.K
open Go.RowKit
section
variable {P:Program}
theorem keyLits_four {t:TypeId} {f0 f1 f2 f3:Field} {D:Nat} {cs:List Value} {a b c d:List Lit} (h:P.underlying t=some (.struct #[f0,f1,f2,f3])) (n0:(f0.name != "_")=true) (n1:(f1.name != "_")=true) (n2:(f2.name != "_")=true) (n3:(f3.name != "_")=true) (hl:cs.length=P.cellsOf t)
    (k0:P.keyLits D f0.type ((cs.drop f0.offset).take (P.cellsOf f0.type))=some a) (k1:P.keyLits D f1.type ((cs.drop f1.offset).take (P.cellsOf f1.type))=some b) (k2:P.keyLits D f2.type ((cs.drop f2.offset).take (P.cellsOf f2.type))=some c) (k3:P.keyLits D f3.type ((cs.drop f3.offset).take (P.cellsOf f3.type))=some d):P.keyLits (D+1) t cs=some (a++(b++(c++d))):=by
  unfold Program.keyLits;simp [h,hl,n0,n1,n2,n3,k0,k1,k2,k3]
variable {n:NN} {f:Fr} {w:World} {d:Option Tmp} {t ty ty':TypeId} {pos:String} {af:Array Edge} {g:Option (Nat × Bool)} {x y:Operand}
theorem X_neqST {a b:ByteArray} (hx:ev n f x=.string a) (hy:ev n f y=.string b) (h:a ≠ b):X P n ⟨d,.binOp .neq ty x y ty',t,pos,af,g⟩ f w=.ok (.value (.bool true)) w:=by
  have h':¬ a.toList=b.toList:=by
    simp [ByteArray.toList_eq];exact fun e=>h (ByteArray.ext_iff.2 (by simpa using e))
  simp [X,execOp,hx,hy,go_sem,binOp,Op.stringOp,h']
theorem z2e {a b:ByteArray} (hx:ev n f x=.string a) (hy:ev n f y=.string b) (h:a=b):X P n ⟨d,.binOp .neq ty x y ty',t,pos,af,g⟩ f w=.ok (.value (.bool false)) w:=by
  simp [X,execOp,hx,hy,go_sem,binOp,Op.stringOp,h]
end
end Go.Proofs.K
namespace Go.Proofs.YtbolofkandcnlaaGreatDoor
open Go.RowKit Go.Proofs.K
def shV (a b c d:Nat):List Value:=[.int .i64 (a:Nat),.int .i64 (b:Nat),.int .i64 (c:Nat),.int .i64 (d:Nat)]
instance eqShape:TEq Tryz.prog 25:=⟨by kernel_rfl,by kernel_rfl,.inl ⟨_,Tryz.underlying25⟩⟩
theorem kl_shape {a b c d:Nat} (ha:a < 4294967296) (hb:b < 4294967296) (hc:c < 4294967296) (hd:d < 4294967296):(Tryz.prog).keyLits 3 25 (shV a b c d)=some ([.int .i64 (a:Nat)]++([.int .i64 (b:Nat)]++([.int .i64 (c:Nat)]++[.int .i64 (d:Nat)]))):=by
  refine keyLits_four (D:=2) Tryz.underlying25 (by decide) (by decide) (by decide) (by decide) (by kernel_rfl) ?_ ?_ ?_ ?_ <;> rw [show (Tryz.prog).cellsOf 3=1 by kernel_rfl]
  · exact Go.Proofs.K.keyLits_int 1 (z2o (by omega))
  · exact Go.Proofs.K.keyLits_int 1 (z2o (by omega))
  · exact Go.Proofs.K.keyLits_int 1 (z2o (by omega))
  · exact Go.Proofs.K.keyLits_int 1 (z2o (by omega))
section
variable {n:NN} {f:Fr} {w:World} {d:Option Tmp} {t:TypeId} {pos:String} {af:Array Edge} {g:Option (Nat × Bool)} {x y:Operand}
theorem z3z {q:Bool} {a b c e a' b' c' e':Nat} (h:a < 4294967296∧b < 4294967296∧c < 4294967296∧e < 4294967296) (h':a' < 4294967296∧b' < 4294967296∧c' < 4294967296∧e' < 4294967296) (hq:q=true↔¬ (a=a'∧b=b'∧c=c'∧e=e'))
    (hx:ev n f x=.agg (shV a b c e).toArray) (hy:ev n f y=.agg (shV a' b' c' e').toArray) :
    X Tryz.prog n ⟨d,.binOp .neq 25 x y 25,t,pos,af,g⟩ f w=.ok (.value (.bool q)) w :=
  X_neqK hx hy (by kernel_rfl) (by kernel_rfl) (kl_shape h.1 h.2.1 h.2.2.1 h.2.2.2) (kl_shape h'.1 h'.2.1 h'.2.2.1 h'.2.2.2) (by
    rw [hq]
    simp [Int.ofNat_inj])
end
structure CertE (c:Ce.Cert):Prop where
  root:c.root.length=32∧∀ b∈c.root,b < 256
  log:c.log < 4294967296
  sh:c.sR < 4294967296∧c.sC < 4294967296∧c.sB < 4294967296∧c.sT < 4294967296
  q:∀ b∈c.q,b < 256
  rows:∀ r∈c.rows,∀ e∈r,E64 e
  ps:∀ p∈c.ps,LpE p
  pz:∀ p∈c.pz,LpE p
  batch:∀ r∈c.batch,∀ e∈r,E64 e
  v:E64 c.v
  orow:∀ e∈c.orow,E64 e
  ornd:∀ e∈c.ornd,E64 e
  nodes:∀ e∈c.nodes,∀ b∈e,b < 256
structure CerF (C:List Value) (c:Ce.Cert) (qb:ByteArray) (s1 p1 p2 p3 b1 o1 o2 o3 o4:Value):Prop where
  f0:C[0]?=some (.string qb)
  f1:C[1]?=some (.int .i64 (c.log:Nat))
  f2:(C.drop 2).take 32=ints .u8 c.root
  f34:(C.drop 34).take 4=shV c.sR c.sC c.sB c.sT
  a34:C[34]?=some (.int .i64 (c.sR:Nat))
  a35:C[35]?=some (.int .i64 (c.sC:Nat))
  a36:C[36]?=some (.int .i64 (c.sB:Nat))
  a37:C[37]?=some (.int .i64 (c.sT:Nat))
  f38:C[38]?=some s1
  f39:C[39]?=some p1
  f40:C[40]?=some p2
  f41:C[41]?=some p3
  p39:(C.drop 39).take 3=[p1,p2,p3]
  f42:C[42]?=some b1
  f43:(C.drop 43).take 2=exC c.v.1 c.v.2
  f45:C[45]?=some o1
  f46:C[46]?=some o2
  f47:C[47]?=some o3
  f48:C[48]?=some o4
theorem z3k {C l:List Value} {k m:Nat} (hm:l.length=m) (h:∀ j,j < m→C[k+j]?=l[j]?):(C.drop k).take m=l:=by
  apply List.ext_getElem?;intro j;rw [List.getElem?_take];rcases Nat.lt_or_ge j m with hj | hj
  · rw [if_pos hj,List.getElem?_drop,h j hj]
  · rw [if_neg (by omega),List.getElem?_eq_none (by omega)]
theorem q8h {c:Ce.Cert} {qb:ByteArray} {s1 p1 p2 p3 b1 o1 o2 o3 o4:Value} (hr:c.root.length=32):CerF (cerC c qb s1 p1 p2 p3 b1 o1 o2 o3 o4) c qb s1 p1 p2 p3 b1 o1 o2 o3 o4 where
  f0:=rfl
  f1:=rfl
  f2:=by
    show ((ints .u8 c.root++_).take 32)=_;rw [List.take_append_of_le_length (by rw [q0t,hr];omega),List.take_of_length_le (by rw [q0t,hr];omega)]
  f34:=z3k rfl fun j hj=>by
    match j,hj with
    | 0,_=>exact q2u hr (j:=0) rfl
    | 1,_=>exact q2u hr (j:=1) rfl
    | 2,_=>exact q2u hr (j:=2) rfl
    | 3,_=>exact q2u hr (j:=3) rfl
  a34:=q2u hr (j:=0) rfl
  a35:=q2u hr (j:=1) rfl
  a36:=q2u hr (j:=2) rfl
  a37:=q2u hr (j:=3) rfl
  f38:=q2u hr (j:=4) rfl
  f39:=q2u hr (j:=5) rfl
  f40:=q2u hr (j:=6) rfl
  f41:=q2u hr (j:=7) rfl
  p39:=z3k rfl fun j hj=>by
    match j,hj with
    | 0,_=>exact q2u hr (j:=5) rfl
    | 1,_=>exact q2u hr (j:=6) rfl
    | 2,_=>exact q2u hr (j:=7) rfl
  f42:=q2u hr (j:=8) rfl
  f43:=z3k rfl fun j hj=>by
    match j,hj with
    | 0,_=>exact q2u hr (j:=9) rfl
    | 1,_=>exact q2u hr (j:=10) rfl
  f45:=q2u hr (j:=11) rfl
  f46:=q2u hr (j:=12) rfl
  f47:=q2u hr (j:=13) rfl
  f48:=q2u hr (j:=14) rfl
theorem cert_eq {a b:Ce.Cert}:a=b↔a.q=b.q∧a.log=b.log∧a.root=b.root∧(a.sR=b.sR∧a.sC=b.sC∧a.sB=b.sB∧a.sT=b.sT)∧a.v=b.v∧a.sums=b.sums∧(a.rows=b.rows∧a.ps=b.ps∧a.pz=b.pz)∧a.batch=b.batch∧a.orow=b.orow∧a.ornd=b.ornd∧a.nodes=b.nodes∧a.cols=b.cols:=by
  constructor
  · rintro rfl;exact ⟨rfl,rfl,rfl,⟨rfl,rfl,rfl,rfl⟩,rfl,rfl,⟨rfl,rfl,rfl⟩,rfl,rfl,rfl,rfl,rfl⟩
  · rintro ⟨h1,h2,h3,⟨h4,h5,h6,h7⟩,h8,h9,⟨h10,h11,h12⟩,h13,h14,h15,h16,h17⟩;cases a
    cases b
    simp_all
set_option maxRecDepth 100000 in
set_option maxHeartbeats 4000000 in
theorem s22same {N M:Nat→Prop} {x y:List Value} {a b:Ce.Cert} {w:World} (hx:cerR N w x a) (hy:cerR M w y b) (ha:CertE a) (hb:CertE b) :
    Calls Tryz.prog 13 #[.agg x.toArray,.agg y.toArray] w (q5t (a=b) w):=by
  obtain ⟨qa,s1,p1,p2,p3,b1,o1,o2,o3,o4,rfl,hra,hA⟩:=hx;obtain ⟨qb,t1,r1,r2,r3,d1,u1,u2,u3,u4,rfl,hrb,hB⟩:=hy;refine q0l Tryz.func13 rfl Tryz.ntmps13 rfl ?_;have FC:=q8h (c:=a) (qb:=qa) (s1:=s1) (p1:=p1) (p2:=p2) (p3:=p3) (b1:=b1) (o1:=o1) (o2:=o2) (o3:=o3) (o4:=o4) hra;have FD:=q8h (c:=b) (qb:=qb) (s1:=t1) (p1:=r1) (p2:=r2) (p3:=r3) (b1:=d1) (o1:=u1) (o2:=u2) (o3:=u3) (o4:=u4) hrb;have hlC:=q7j (c:=a) (qb:=qa) (s1:=s1) (p1:=p1) (p2:=p2) (p3:=p3) (b1:=b1) (o1:=o1) (o2:=o2) (o3:=o3) (o4:=o4) hra;generalize cerC a qa s1 p1 p2 p3 b1 o1 o2 o3 o4=C at *;generalize cerC b qb t1 r1 r2 r3 d1 u1 u2 u3 u4=D at *;(refine q0b<|q0a ?_);refine q3t (l:=C) rfl ?_;intro g2 w2 B2 hg2 E2 hw2;skip;refine q3t (l:=D) rfl ?_;intro g3 w3 B3 hg3 E3 hw3;have B2:=B2.ext E3;have E:=E2.trans E3;(refine a_B rfl<|q0c<|tn<|q0b<|q0b<|q0a ?_);dsimp only [List.append];rw [cert_eq];have cs1:=(q1j (by decide) q2r).one hA.s1 s1 (List.mem_singleton.2 rfl);have ct1:=(q1j (by decide) q2r).one hB.s1 t1 (List.mem_singleton.2 rfl);have cp1:=q1i.one hA.p1 p1 (List.mem_singleton.2 rfl);have cr1:=q1i.one hB.p1 r1 (List.mem_singleton.2 rfl);have cp2:=q1t.one hA.p2 p2 (List.mem_singleton.2 rfl);have cr2:=q1t.one hB.p2 r2 (List.mem_singleton.2 rfl);have cp3:=q1t.one hA.p3 p3 (List.mem_singleton.2 rfl);have cr3:=q1t.one hB.p3 r3 (List.mem_singleton.2 rfl);have cb1:=q1i.one hA.b1 b1 (List.mem_singleton.2 rfl);have cd1:=q1i.one hB.b1 d1 (List.mem_singleton.2 rfl);have co1:=q0y.one hA.o1 o1 (List.mem_singleton.2 rfl);have cu1:=q0y.one hB.o1 u1 (List.mem_singleton.2 rfl);have co2:=q0y.one hA.o2 o2 (List.mem_singleton.2 rfl);have cu2:=q0y.one hB.o2 u2 (List.mem_singleton.2 rfl);have co3:=q3u.one hA.o3 o3 (List.mem_singleton.2 rfl);have cu3:=q3u.one hB.o3 u3 (List.mem_singleton.2 rfl);have co4:=q4n.one hA.o4 o4 (List.mem_singleton.2 rfl);have cu4:=q4n.one hB.o4 u4 (List.mem_singleton.2 rfl);have hqs:a.q=b.q↔qa=qb:=by rw [hA.q,hB.q];exact ⟨sb_inj,fun h=>by rw [h]⟩
  by_cases hq:a.q=b.q
  case neg =>
    repeat (first | (with_reducible refine tn ?_) | (with_reducible refine tr ?_) | (with_reducible refine q0b ?_) | (with_reducible refine q0a ?_) | (with_reducible refine q0r ?_) | (with_reducible refine q0c ?_) | ((with_reducible refine q4m ?_);((with_reducible refine i_ng ?_);refine Ls (q0d (v:=.bool _) rfl) ?_)) | ((with_reducible refine q3a ?_);((with_reducible refine i_ng ?_);refine Ls (q0e (v:=.bool _) rfl) ?_)) | ((with_reducible refine q6p ?_);((with_reducible refine i_ng ?_);refine Ls (X_neqST rfl rfl (fun e=>hq (hqs.2 e))) ?_)) | ((with_reducible refine q6q ?_);((with_reducible refine i_ng ?_);refine Ls (q0g rfl) ?_)) | ((with_reducible refine q4l ?_);((with_reducible refine i_ng ?_);refine Ls (q0k (v:=.bool _) rfl rfl) ?_)) | ((with_reducible refine q9t ?_);((with_reducible refine i_ng ?_);(first | refine Ls (X_ld rfl B2 FC.f0) ?_ | refine Ls (X_ld rfl B3 FD.f0) ?_))) | ((with_reducible refine i_gd ?_);refine Lo2 rfl rfl rfl rfl ?_) | (with_reducible refine q0v rfl ?_))
    exact q0i rfl rfl (v:=.bool false) rfl ⟨false,rfl,⟨(fun h=>by cases h),fun h=>absurd h.1 (by assumption)⟩,E⟩
  by_cases hlg:a.log=b.log
  case neg =>
    repeat (first | (with_reducible refine tn ?_) | (with_reducible refine tr ?_) | (with_reducible refine q0b ?_) | (with_reducible refine q0a ?_) | (with_reducible refine q0r ?_) | (with_reducible refine q0c ?_) | ((with_reducible refine q4m ?_);((with_reducible refine i_ng ?_);refine Ls (q0d (v:=.bool _) rfl) ?_)) | ((with_reducible refine q3a ?_);((with_reducible refine i_ng ?_);refine Ls (q0e (v:=.bool _) rfl) ?_)) | ((with_reducible refine q6p ?_);(first | ((with_reducible refine i_ng ?_);refine Ls (z2e rfl rfl (hqs.1 hq)) ?_) | ((with_reducible refine i_gd ?_);refine Lg2 rfl rfl rfl (q4d rfl rfl (by omega)) ?_))) | ((with_reducible refine q6q ?_);(first | ((with_reducible refine i_ng ?_);refine Ls (q0g rfl) ?_) | ((with_reducible refine i_gd ?_);refine Lg2 rfl rfl rfl (q0g rfl) ?_))) | ((with_reducible refine q4l ?_);((with_reducible refine i_ng ?_);(first | refine Ls (q0k (v:=.bool _) rfl rfl) ?_ | refine Ls (q0p (v:=.bool _) rfl rfl) ?_))) | ((with_reducible refine q9t ?_);(first | ((with_reducible refine i_ng ?_);(first | refine Ls (X_ld rfl B2 FC.f0) ?_ | refine Ls (X_ld rfl B3 FD.f0) ?_)) | ((with_reducible refine i_gd ?_);(first | refine Lg2 rfl rfl rfl (X_ld rfl B2 FC.f1) ?_ | refine Lg2 rfl rfl rfl (X_ld rfl B3 FD.f1) ?_)))) | ((with_reducible refine i_gd ?_);refine Lo2 rfl rfl rfl rfl ?_) | (with_reducible refine q0v rfl ?_))
    exact q0i rfl rfl (v:=.bool false) rfl ⟨false,rfl,⟨(fun h=>by cases h),fun h=>absurd h.2.1 (by assumption)⟩,E⟩
  by_cases hrt:a.root=b.root
  case neg =>
    repeat (first | (with_reducible refine tn ?_) | (with_reducible refine tr ?_) | (with_reducible refine q0b ?_) | (with_reducible refine q0a ?_) | (with_reducible refine q0r ?_) | (with_reducible refine q0c ?_) | ((with_reducible refine q4m ?_);((with_reducible refine i_ng ?_);refine Ls (q0d (v:=.bool _) rfl) ?_)) | ((with_reducible refine q3a ?_);((with_reducible refine i_ng ?_);refine Ls (q0e (v:=.bool _) rfl) ?_)) | ((with_reducible refine q6p ?_);(first | ((with_reducible refine i_ng ?_);refine Ls (z2e rfl rfl (hqs.1 hq)) ?_) | ((with_reducible refine i_gd ?_);(first | refine Lg2 rfl rfl rfl (X_neqDT ha.root.1 hb.root.1 ha.root.2 hb.root.2 hrt rfl rfl) ?_ | refine Lg2 rfl rfl rfl (q3g rfl rfl (by omega)) ?_)))) | ((with_reducible refine q6q ?_);(first | ((with_reducible refine i_ng ?_);refine Ls (q0g rfl) ?_) | ((with_reducible refine i_gd ?_);refine Lg2 rfl rfl rfl (q0g rfl) ?_))) | ((with_reducible refine q4l ?_);((with_reducible refine i_ng ?_);(first | refine Ls (q0k (v:=.bool _) rfl rfl) ?_ | refine Ls (q0p (v:=.bool _) rfl rfl) ?_))) | ((with_reducible refine q9t ?_);(first | ((with_reducible refine i_ng ?_);(first | refine Ls (X_ld rfl B2 FC.f0) ?_ | refine Ls (X_ld rfl B3 FD.f0) ?_)) | ((with_reducible refine i_gd ?_);(first | refine Lg2 rfl rfl rfl (X_ld rfl B2 FC.f1) ?_ | refine Lg2 rfl rfl rfl (X_ld rfl B3 FD.f1) ?_ | refine Lg2 rfl rfl rfl (q4p (l:=ints .u8 a.root) rfl B2 FC.f2 (by rw [q0t];exact ha.root.1)) ?_ | refine Lg2 rfl rfl rfl (q4p (l:=ints .u8 b.root) rfl B3 FD.f2 (by rw [q0t];exact hb.root.1)) ?_)))) | ((with_reducible refine i_gd ?_);refine Lo2 rfl rfl rfl rfl ?_) | (with_reducible refine q0v rfl ?_))
    exact q0i rfl rfl (v:=.bool false) rfl ⟨false,rfl,⟨(fun h=>by cases h),fun h=>absurd h.2.2.1 (by assumption)⟩,E⟩
  by_cases hsh:a.sR=b.sR∧a.sC=b.sC∧a.sB=b.sB∧a.sT=b.sT
  case neg =>
    repeat (first | (with_reducible refine tn ?_) | (with_reducible refine tr ?_) | (with_reducible refine q0b ?_) | (with_reducible refine q0a ?_) | (with_reducible refine q0r ?_) | (with_reducible refine q0c ?_) | ((with_reducible refine q4m ?_);((with_reducible refine i_ng ?_);refine Ls (q0d (v:=.bool _) rfl) ?_)) | ((with_reducible refine q3a ?_);((with_reducible refine i_ng ?_);refine Ls (q0e (v:=.bool _) rfl) ?_)) | ((with_reducible refine q6p ?_);(first | ((with_reducible refine i_ng ?_);refine Ls (z2e rfl rfl (hqs.1 hq)) ?_) | ((with_reducible refine i_gd ?_);(first | refine Lg2 rfl rfl rfl (z3z (q:=true) ha.sh hb.sh ⟨fun _=>hsh,fun _=>rfl⟩ rfl rfl) ?_ | refine Lg2 rfl rfl rfl (z4a ha.root.1 hb.root.1 ha.root.2 hb.root.2 hrt rfl rfl) ?_ | refine Lg2 rfl rfl rfl (q3g rfl rfl (by omega)) ?_)))) | ((with_reducible refine q6q ?_);(first | ((with_reducible refine i_ng ?_);refine Ls (q0g rfl) ?_) | ((with_reducible refine i_gd ?_);refine Lg2 rfl rfl rfl (q0g rfl) ?_))) | ((with_reducible refine q4l ?_);((with_reducible refine i_ng ?_);(first | refine Ls (q0k (v:=.bool _) rfl rfl) ?_ | refine Ls (q0p (v:=.bool _) rfl rfl) ?_))) | ((with_reducible refine q9t ?_);(first | ((with_reducible refine i_ng ?_);(first | refine Ls (X_ld rfl B2 FC.f0) ?_ | refine Ls (X_ld rfl B3 FD.f0) ?_)) | ((with_reducible refine i_gd ?_);(first | refine Lg2 rfl rfl rfl (X_ld rfl B2 FC.f1) ?_ | refine Lg2 rfl rfl rfl (X_ld rfl B3 FD.f1) ?_ | refine Lg2 rfl rfl rfl (q4p (l:=ints .u8 a.root) rfl B2 FC.f2 (by rw [q0t];exact ha.root.1)) ?_ | refine Lg2 rfl rfl rfl (q4p (l:=ints .u8 b.root) rfl B3 FD.f2 (by rw [q0t];exact hb.root.1)) ?_ | refine Lg2 rfl rfl rfl (q4p (l:=shV a.sR a.sC a.sB a.sT) rfl B2 FC.f34 rfl) ?_ | refine Lg2 rfl rfl rfl (q4p (l:=shV b.sR b.sC b.sB b.sT) rfl B3 FD.f34 rfl) ?_)))) | ((with_reducible refine i_gd ?_);refine Lo2 rfl rfl rfl rfl ?_) | (with_reducible refine q0v rfl ?_))
    exact q0i rfl rfl (v:=.bool false) rfl ⟨false,rfl,⟨(fun h=>by cases h),fun h=>absurd h.2.2.2.1 (by assumption)⟩,E⟩
  by_cases hv:a.v=b.v
  case neg =>
    repeat (first | (with_reducible refine tn ?_) | (with_reducible refine tr ?_) | (with_reducible refine q0b ?_) | (with_reducible refine q0a ?_) | (with_reducible refine q0r ?_) | (with_reducible refine q0c ?_) | ((with_reducible refine q4m ?_);((with_reducible refine i_ng ?_);refine Ls (q0d (v:=.bool _) rfl) ?_)) | ((with_reducible refine q3a ?_);((with_reducible refine i_ng ?_);refine Ls (q0e (v:=.bool _) rfl) ?_)) | ((with_reducible refine q6p ?_);(first | ((with_reducible refine i_ng ?_);refine Ls (z2e rfl rfl (hqs.1 hq)) ?_) | ((with_reducible refine i_gd ?_);(first | refine Lg2 rfl rfl rfl (z0g ha.v hb.v hv rfl rfl) ?_ | refine Lg2 rfl rfl rfl (z3z (q:=false) ha.sh hb.sh ⟨(fun h=>by cases h),fun h=>absurd hsh h⟩ rfl rfl) ?_ | refine Lg2 rfl rfl rfl (z4a ha.root.1 hb.root.1 ha.root.2 hb.root.2 hrt rfl rfl) ?_ | refine Lg2 rfl rfl rfl (q3g rfl rfl (by omega)) ?_)))) | ((with_reducible refine q6q ?_);(first | ((with_reducible refine i_ng ?_);refine Ls (q0g rfl) ?_) | ((with_reducible refine i_gd ?_);refine Lg2 rfl rfl rfl (q0g rfl) ?_))) | ((with_reducible refine q4l ?_);((with_reducible refine i_ng ?_);(first | refine Ls (q0k (v:=.bool _) rfl rfl) ?_ | refine Ls (q0p (v:=.bool _) rfl rfl) ?_))) | ((with_reducible refine q9t ?_);(first | ((with_reducible refine i_ng ?_);(first | refine Ls (X_ld rfl B2 FC.f0) ?_ | refine Ls (X_ld rfl B3 FD.f0) ?_)) | ((with_reducible refine i_gd ?_);(first | refine Lg2 rfl rfl rfl (X_ld rfl B2 FC.f1) ?_ | refine Lg2 rfl rfl rfl (X_ld rfl B3 FD.f1) ?_ | refine Lg2 rfl rfl rfl (q4p (l:=ints .u8 a.root) rfl B2 FC.f2 (by rw [q0t];exact ha.root.1)) ?_ | refine Lg2 rfl rfl rfl (q4p (l:=ints .u8 b.root) rfl B3 FD.f2 (by rw [q0t];exact hb.root.1)) ?_ | refine Lg2 rfl rfl rfl (q4p (l:=shV a.sR a.sC a.sB a.sT) rfl B2 FC.f34 rfl) ?_ | refine Lg2 rfl rfl rfl (q4p (l:=shV b.sR b.sC b.sB b.sT) rfl B3 FD.f34 rfl) ?_ | refine Lg2 rfl rfl rfl (q4p (l:=exC a.v.1 a.v.2) rfl B2 FC.f43 rfl) ?_ | refine Lg2 rfl rfl rfl (q4p (l:=exC b.v.1 b.v.2) rfl B3 FD.f43 rfl) ?_)))) | ((with_reducible refine i_gd ?_);refine Lo2 rfl rfl rfl rfl ?_) | (with_reducible refine q0v rfl ?_))
    exact q0i rfl rfl (v:=.bool false) rfl ⟨false,rfl,⟨(fun h=>by cases h),fun h=>absurd h.2.2.2.2.1 (by assumption)⟩,E⟩
  (refine Ls (q0g rfl)<|Ls (X_ld rfl B2 FC.f0)<|Ls (q0g rfl)<|Ls (X_ld rfl B3 FD.f0)<|Ls (z2e rfl rfl (hqs.1 hq))<|m_B rfl<|Lg2 rfl rfl rfl (q0g rfl)<|Lg2 rfl rfl rfl (X_ld rfl B2 FC.f1)<|Lg2 rfl rfl rfl (q0g rfl)<|Lg2 rfl rfl rfl (X_ld rfl B3 FD.f1)<|Lg2 rfl rfl rfl (q3g rfl rfl (by omega))<|Ls (q0p (v:=.bool _) rfl rfl)<|m_B rfl<|Lg2 rfl rfl rfl (q0g rfl)<|Lg2 rfl rfl rfl (q4p (l:=ints .u8 a.root) rfl B2 FC.f2 (by rw [q0t];exact ha.root.1))<|Lg2 rfl rfl rfl (q0g rfl)<|Lg2 rfl rfl rfl (q4p (l:=ints .u8 b.root) rfl B3 FD.f2 (by rw [q0t];exact hb.root.1))<|Lg2 rfl rfl rfl (z4a ha.root.1 hb.root.1 ha.root.2 hb.root.2 hrt rfl rfl)<|Ls (q0p (v:=.bool _) rfl rfl)<|m_B rfl<|Lg2 rfl rfl rfl (q0g rfl)<|Lg2 rfl rfl rfl (q4p (l:=shV a.sR a.sC a.sB a.sT) rfl B2 FC.f34 rfl)<|Lg2 rfl rfl rfl (q0g rfl)<|Lg2 rfl rfl rfl (q4p (l:=shV b.sR b.sC b.sB b.sT) rfl B3 FD.f34 rfl)<|Lg2 rfl rfl rfl (z3z (q:=false) ha.sh hb.sh ⟨(fun h=>by cases h),fun h=>absurd hsh h⟩ rfl rfl)<|Ls (q0p (v:=.bool _) rfl rfl)<|m_B rfl<|Lg2 rfl rfl rfl (q0g rfl)<|Lg2 rfl rfl rfl (q4p (l:=exC a.v.1 a.v.2) rfl B2 FC.f43 rfl)<|Lg2 rfl rfl rfl (q0g rfl)<|Lg2 rfl rfl rfl (q4p (l:=exC b.v.1 b.v.2) rfl B3 FD.f43 rfl)<|Lg2 rfl rfl rfl (q8s ha.v hb.v hv rfl rfl)<|Ls (q0p (v:=.bool _) rfl rfl)<|m_B rfl<|Lg2 rfl rfl rfl (q0g rfl)<|Lg2 rfl rfl rfl (X_ld rfl B2 FC.f38)<|Lg2 rfl rfl rfl (q0g rfl)<|Lg2 rfl rfl rfl (X_ld rfl B3 FD.f38) ?_);refine q2h rfl rfl rfl ?_;refine L_fn (s14same ((q1j (by decide) q2r).ext hA.s1 E) ((q1j (by decide) q2r).ext hB.s1 E)) rfl ?_;rintro e w4 ⟨q0,rfl,hq0,E4⟩;refine ⟨_,rfl,?_⟩;have E:=E.trans E4;have B2:=B2.ext E4;have B3:=B3.ext E4;cases q0 with
  | false =>
    (refine Lg2 rfl rfl rfl (q2d rfl)<|Ls (q0p (v:=.bool _) rfl rfl)<|m_B rfl<|Lo2 rfl rfl rfl rfl<|Lo2 rfl rfl rfl rfl<|Lo2 rfl rfl rfl rfl<|Lo2 rfl rfl rfl rfl<|Lo2 rfl rfl rfl rfl<|Lo2 rfl rfl rfl rfl<|Ls (q0k (v:=.bool _) rfl rfl)<|m_B rfl<|Lo2 rfl rfl rfl rfl<|Lo2 rfl rfl rfl rfl<|Lo2 rfl rfl rfl rfl<|Lo2 rfl rfl rfl rfl<|Lo2 rfl rfl rfl rfl<|Lo2 rfl rfl rfl rfl<|Ls (q0k (v:=.bool _) rfl rfl)<|m_B rfl<|Lo2 rfl rfl rfl rfl<|Lo2 rfl rfl rfl rfl<|Lo2 rfl rfl rfl rfl<|Lo2 rfl rfl rfl rfl<|Lo2 rfl rfl rfl rfl<|Lo2 rfl rfl rfl rfl<|Lo2 rfl rfl rfl rfl<|Lo2 rfl rfl rfl rfl<|Ls (q0k (v:=.bool _) rfl rfl)<|m_B rfl<|Lo2 rfl rfl rfl rfl<|Lo2 rfl rfl rfl rfl<|Lo2 rfl rfl rfl rfl<|Lo2 rfl rfl rfl rfl<|Lo2 rfl rfl rfl rfl<|Lo2 rfl rfl rfl rfl<|Lo2 rfl rfl rfl rfl<|Lo2 rfl rfl rfl rfl<|Ls (q0k (v:=.bool _) rfl rfl)<|m_B rfl<|Lo2 rfl rfl rfl rfl<|Lo2 rfl rfl rfl rfl<|Lo2 rfl rfl rfl rfl<|Lo2 rfl rfl rfl rfl<|Lo2 rfl rfl rfl rfl<|Lo2 rfl rfl rfl rfl<|Lo2 rfl rfl rfl rfl<|Lo2 rfl rfl rfl rfl<|Lo2 rfl rfl rfl rfl<|Lo2 rfl rfl rfl rfl<|Ls (q0k (v:=.bool _) rfl rfl)<|q0c<|tn<|q0v rfl<|q0b<|q0a<|a_B rfl<|q0c<|tn<|q0r<|tr ?_);exact q0i rfl rfl (v:=.bool false) rfl ⟨false,rfl,⟨(fun h=>by cases h),fun h=>by cases hq0.2 h.2.2.2.2.2.1⟩,E⟩
  | true =>
  (refine Lg2 rfl rfl rfl (q2d rfl)<|Ls (q0p (v:=.bool _) rfl rfl)<|m_B rfl<|Lg2 rfl rfl rfl (q0g rfl)<|Lg2 rfl rfl rfl (q4p (l:=[p1,p2,p3]) rfl B2 FC.p39 rfl)<|Lg2 rfl rfl rfl (q0g rfl)<|Lg2 rfl rfl rfl (q4p (l:=[r1,r2,r3]) rfl B3 FD.p39 rfl) ?_);refine q2h rfl rfl rfl ?_;refine L_fn (s20same (q1i.ext hA.p1 E) (q1t.ext hA.p2 E) (q1t.ext hA.p3 E) (q1i.ext hB.p1 E) (q1t.ext hB.p2 E) (q1t.ext hB.p3 E) ha.rows hb.rows ha.ps hb.ps ha.pz hb.pz) rfl ?_;rintro e w5 ⟨q1,rfl,hq1,E5⟩;refine ⟨_,rfl,?_⟩;have E:=E.trans E5;have B2:=B2.ext E5;have B3:=B3.ext E5;cases q1 with
  | false =>
    (refine Lg2 rfl rfl rfl (q2d rfl)<|Ls (q0p (v:=.bool _) rfl rfl)<|m_B rfl<|Lo2 rfl rfl rfl rfl<|Lo2 rfl rfl rfl rfl<|Lo2 rfl rfl rfl rfl<|Lo2 rfl rfl rfl rfl<|Lo2 rfl rfl rfl rfl<|Lo2 rfl rfl rfl rfl<|Ls (q0k (v:=.bool _) rfl rfl)<|m_B rfl<|Lo2 rfl rfl rfl rfl<|Lo2 rfl rfl rfl rfl<|Lo2 rfl rfl rfl rfl<|Lo2 rfl rfl rfl rfl<|Lo2 rfl rfl rfl rfl<|Lo2 rfl rfl rfl rfl<|Lo2 rfl rfl rfl rfl<|Lo2 rfl rfl rfl rfl<|Ls (q0k (v:=.bool _) rfl rfl)<|m_B rfl<|Lo2 rfl rfl rfl rfl<|Lo2 rfl rfl rfl rfl<|Lo2 rfl rfl rfl rfl<|Lo2 rfl rfl rfl rfl<|Lo2 rfl rfl rfl rfl<|Lo2 rfl rfl rfl rfl<|Lo2 rfl rfl rfl rfl<|Lo2 rfl rfl rfl rfl<|Ls (q0k (v:=.bool _) rfl rfl)<|m_B rfl<|Lo2 rfl rfl rfl rfl<|Lo2 rfl rfl rfl rfl<|Lo2 rfl rfl rfl rfl<|Lo2 rfl rfl rfl rfl<|Lo2 rfl rfl rfl rfl<|Lo2 rfl rfl rfl rfl<|Lo2 rfl rfl rfl rfl<|Lo2 rfl rfl rfl rfl<|Lo2 rfl rfl rfl rfl<|Lo2 rfl rfl rfl rfl<|Ls (q0k (v:=.bool _) rfl rfl)<|q0c<|tn<|q0v rfl<|q0b<|q0a<|a_B rfl<|q0c<|tn<|q0r<|tr ?_);exact q0i rfl rfl (v:=.bool false) rfl ⟨false,rfl,⟨(fun h=>by cases h),fun h=>by cases hq1.2 h.2.2.2.2.2.2.1⟩,E⟩
  | true =>
  (refine Lg2 rfl rfl rfl (q2d rfl)<|Ls (q0p (v:=.bool _) rfl rfl)<|m_B rfl<|Lg2 rfl rfl rfl (q0g rfl)<|Lg2 rfl rfl rfl (X_ld rfl B2 FC.f42)<|Lg2 rfl rfl rfl (q0g rfl)<|Lg2 rfl rfl rfl (X_ld rfl B3 FD.f42) ?_);refine q2h rfl rfl rfl ?_;refine L_fn (s6same (q1i.ext hA.b1 E) (q1i.ext hB.b1 E) ha.batch hb.batch) rfl ?_;rintro e w6 ⟨q2,rfl,hq2,E6⟩;refine ⟨_,rfl,?_⟩;have E:=E.trans E6;have B2:=B2.ext E6;have B3:=B3.ext E6;cases q2 with
  | false =>
    (refine Lg2 rfl rfl rfl (q2d rfl)<|Ls (q0p (v:=.bool _) rfl rfl)<|m_B rfl<|Lo2 rfl rfl rfl rfl<|Lo2 rfl rfl rfl rfl<|Lo2 rfl rfl rfl rfl<|Lo2 rfl rfl rfl rfl<|Lo2 rfl rfl rfl rfl<|Lo2 rfl rfl rfl rfl<|Lo2 rfl rfl rfl rfl<|Lo2 rfl rfl rfl rfl<|Ls (q0k (v:=.bool _) rfl rfl)<|m_B rfl<|Lo2 rfl rfl rfl rfl<|Lo2 rfl rfl rfl rfl<|Lo2 rfl rfl rfl rfl<|Lo2 rfl rfl rfl rfl<|Lo2 rfl rfl rfl rfl<|Lo2 rfl rfl rfl rfl<|Lo2 rfl rfl rfl rfl<|Lo2 rfl rfl rfl rfl<|Ls (q0k (v:=.bool _) rfl rfl)<|m_B rfl<|Lo2 rfl rfl rfl rfl<|Lo2 rfl rfl rfl rfl<|Lo2 rfl rfl rfl rfl<|Lo2 rfl rfl rfl rfl<|Lo2 rfl rfl rfl rfl<|Lo2 rfl rfl rfl rfl<|Lo2 rfl rfl rfl rfl<|Lo2 rfl rfl rfl rfl<|Lo2 rfl rfl rfl rfl<|Lo2 rfl rfl rfl rfl<|Ls (q0k (v:=.bool _) rfl rfl)<|q0c<|tn<|q0v rfl<|q0b<|q0a<|a_B rfl<|q0c<|tn<|q0r<|tr ?_);exact q0i rfl rfl (v:=.bool false) rfl ⟨false,rfl,⟨(fun h=>by cases h),fun h=>by cases hq2.2 h.2.2.2.2.2.2.2.1⟩,E⟩
  | true =>
  (refine Lg2 rfl rfl rfl (q2d rfl)<|Ls (q0p (v:=.bool _) rfl rfl)<|m_B rfl<|Lg2 rfl rfl rfl (q0g rfl)<|Lg2 rfl rfl rfl (q0g rfl)<|Lg2 rfl rfl rfl (X_ld rfl B2 FC.f45)<|Lg2 rfl rfl rfl (q0g rfl)<|Lg2 rfl rfl rfl (q0g rfl)<|Lg2 rfl rfl rfl (X_ld rfl B3 FD.f45) ?_);refine q2h rfl rfl rfl ?_;refine L_fn (s2same (q0y.ext hA.o1 E) (q0y.ext hB.o1 E) ha.orow hb.orow) rfl ?_;rintro e w7 ⟨q3,rfl,hq3,E7⟩;refine ⟨_,rfl,?_⟩;have E:=E.trans E7;have B2:=B2.ext E7;have B3:=B3.ext E7;cases q3 with
  | false =>
    (refine Lg2 rfl rfl rfl (q2d rfl)<|Ls (q0p (v:=.bool _) rfl rfl)<|m_B rfl<|Lo2 rfl rfl rfl rfl<|Lo2 rfl rfl rfl rfl<|Lo2 rfl rfl rfl rfl<|Lo2 rfl rfl rfl rfl<|Lo2 rfl rfl rfl rfl<|Lo2 rfl rfl rfl rfl<|Lo2 rfl rfl rfl rfl<|Lo2 rfl rfl rfl rfl<|Ls (q0k (v:=.bool _) rfl rfl)<|m_B rfl<|Lo2 rfl rfl rfl rfl<|Lo2 rfl rfl rfl rfl<|Lo2 rfl rfl rfl rfl<|Lo2 rfl rfl rfl rfl<|Lo2 rfl rfl rfl rfl<|Lo2 rfl rfl rfl rfl<|Lo2 rfl rfl rfl rfl<|Lo2 rfl rfl rfl rfl<|Lo2 rfl rfl rfl rfl<|Lo2 rfl rfl rfl rfl<|Ls (q0k (v:=.bool _) rfl rfl)<|q0c<|tn<|q0v rfl<|q0b<|q0a<|a_B rfl<|q0c<|tn<|q0r<|tr ?_);exact q0i rfl rfl (v:=.bool false) rfl ⟨false,rfl,⟨(fun h=>by cases h),fun h=>by cases hq3.2 h.2.2.2.2.2.2.2.2.1⟩,E⟩
  | true =>
  (refine Lg2 rfl rfl rfl (q2d rfl)<|Ls (q0p (v:=.bool _) rfl rfl)<|m_B rfl<|Lg2 rfl rfl rfl (q0g rfl)<|Lg2 rfl rfl rfl (q0g rfl)<|Lg2 rfl rfl rfl (X_ld rfl B2 FC.f46)<|Lg2 rfl rfl rfl (q0g rfl)<|Lg2 rfl rfl rfl (q0g rfl)<|Lg2 rfl rfl rfl (X_ld rfl B3 FD.f46) ?_);refine q2h rfl rfl rfl ?_;refine L_fn (s2same (q0y.ext hA.o2 E) (q0y.ext hB.o2 E) ha.ornd hb.ornd) rfl ?_;rintro e w8 ⟨q4,rfl,hq4,E8⟩;refine ⟨_,rfl,?_⟩;have E:=E.trans E8;have B2:=B2.ext E8;have B3:=B3.ext E8;cases q4 with
  | false =>
    (refine Lg2 rfl rfl rfl (q2d rfl)<|Ls (q0p (v:=.bool _) rfl rfl)<|m_B rfl<|Lo2 rfl rfl rfl rfl<|Lo2 rfl rfl rfl rfl<|Lo2 rfl rfl rfl rfl<|Lo2 rfl rfl rfl rfl<|Lo2 rfl rfl rfl rfl<|Lo2 rfl rfl rfl rfl<|Lo2 rfl rfl rfl rfl<|Lo2 rfl rfl rfl rfl<|Lo2 rfl rfl rfl rfl<|Lo2 rfl rfl rfl rfl<|Ls (q0k (v:=.bool _) rfl rfl)<|q0c<|tn<|q0v rfl<|q0b<|q0a<|a_B rfl<|q0c<|tn<|q0r<|tr ?_);exact q0i rfl rfl (v:=.bool false) rfl ⟨false,rfl,⟨(fun h=>by cases h),fun h=>by cases hq4.2 h.2.2.2.2.2.2.2.2.2.1⟩,E⟩
  | true =>
  (refine Lg2 rfl rfl rfl (q2d rfl)<|Ls (q0p (v:=.bool _) rfl rfl)<|m_B rfl<|Lg2 rfl rfl rfl (q0g rfl)<|Lg2 rfl rfl rfl (q0g rfl)<|Lg2 rfl rfl rfl (q0g rfl)<|Lg2 rfl rfl rfl (X_ld rfl B2 FC.f48)<|Lg2 rfl rfl rfl (q0g rfl)<|Lg2 rfl rfl rfl (q0g rfl)<|Lg2 rfl rfl rfl (q0g rfl)<|Lg2 rfl rfl rfl (X_ld rfl B3 FD.f48) ?_);refine q2h rfl rfl rfl ?_;refine L_fn (s8same (q4n.ext hA.o4 E) (q4n.ext hB.o4 E) ha.nodes hb.nodes) rfl ?_;rintro e w9 ⟨q5,rfl,hq5,E9⟩;refine ⟨_,rfl,?_⟩;have E:=E.trans E9;have B2:=B2.ext E9;have B3:=B3.ext E9;cases q5 with
  | false =>
    (refine Lg2 rfl rfl rfl (q2d rfl)<|Ls (q0p (v:=.bool _) rfl rfl)<|q0c<|tn<|q0v rfl<|q0b<|q0a<|a_B rfl<|q0c<|tn<|q0r<|tr ?_);exact q0i rfl rfl (v:=.bool false) rfl ⟨false,rfl,⟨(fun h=>by cases h),fun h=>by cases hq5.2 h.2.2.2.2.2.2.2.2.2.2.1⟩,E⟩
  | true =>
  (refine Lg2 rfl rfl rfl (q2d rfl)<|Ls (q0p (v:=.bool _) rfl rfl)<|q0c<|tn<|q0q rfl<|q0o<|tn<|q0b<|q0a<|Ls (q0g rfl)<|Ls (q0g rfl)<|Ls (X_ld rfl B2 FC.f47)<|Ls (q0g rfl)<|Ls (q0g rfl)<|Ls (X_ld rfl B3 FD.f47) ?_);refine L_fn (s16same (q3u.ext hA.o3 E) (q3u.ext hB.o3 E)) rfl ?_;rintro e w10 ⟨q6,rfl,hq6,E10⟩;refine ⟨_,rfl,?_⟩;(refine a_B rfl<|q0c<|tn<|q0r ?_);exact q0i rfl rfl (v:=.bool q6) rfl ⟨q6,rfl,⟨fun h=>⟨hq,hlg,hrt,hsh,hv,hq0.1 rfl,hq1.1 rfl,hq2.1 rfl,hq3.1 rfl,hq4.1 rfl,hq5.1 rfl,hq6.1 h⟩,fun h=>hq6.2 h.2.2.2.2.2.2.2.2.2.2.2⟩,E.trans E10⟩
end Go.Proofs.YtbolofkandcnlaaGreatDoor
