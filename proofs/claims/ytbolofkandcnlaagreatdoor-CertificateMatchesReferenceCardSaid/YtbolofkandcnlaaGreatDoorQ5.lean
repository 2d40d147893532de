/- Y9, YA, YB, YC, YD, YE, WA, WB, WC, WD, WE, WN, WF, WG, VT, WH, WI, WM, WL, WO. -/
import Derived.Test.YtbolofkandcnlaaGreatDoorQ4
import Derived.Test.YtbolofkandcnlaaGreatDoorQ2
import Derived.Test.YtbolofkandcnlaaGreatDoorCards
import Derived.Test.YtbolofkandcnlaaGreatDoorTie
import Derived.LaidMore
import Derived.LaidHandle
import Derived.Maps.Keyed
import Derived.JoinedCond
import Derived.Leaving
import Derived.SevenTiedAt
namespace Go.Proofs.YtbolofkandcnlaaGreatDoor
open Go.RowKit Go.Proofs.K
structure TokX (k:Nat) (x:List Nat):Prop where
  kk:k < 256
  ne:x ≠ []
  b:∀ c∈x,c < 256
  l:x.length≤1000
  t:∀ l i,(Qy.scan l i).text=x→(Qy.scan l i).kind=k
theorem q6u {x:List Nat} (hne:x ≠ []) (hx:∀ c∈x,Qy.isLo c=true) (hl:x.length≤1000):TokX 1 x:=by
  refine ⟨by decide,hne,fun c hc=>by have:=(Qy.isLo_iff c).1 (hx c hc);omega,hl,fun l i h=>?_⟩;rcases Qy.scan_kinds l i with ⟨_,ht,_⟩ | ⟨hk,_⟩ | ⟨_,ht,_⟩ | ⟨_,ht⟩ | ⟨_,ht,_⟩
  · exact (hne (h.symm.trans ht)).elim
  · exact hk
  · cases x with
    | nil=>exact (hne rfl).elim
    | cons c x =>
      have h1:=(Qy.isLo_iff c).1 (hx c (by simp));have h2:=(Qy.isDi_iff c).1 (ht c (by rw [h];simp));omega
  · rw [h] at ht;rcases ht with rfl | rfl
    · have:=hx 61 (by simp);cases this
    · have:=hx 46 (by simp);cases this
  · exact (hne (h.symm.trans ht)).elim
theorem tokX_sym {x:List Nat} (hx:x=[61]∨x=[46,46]):TokX 3 x:=by
  refine ⟨by decide,by rcases hx with rfl | rfl <;> decide,by rcases hx with rfl | rfl <;> decide,by rcases hx with rfl | rfl <;> decide,fun l i h=>?_⟩;rcases Qy.scan_kinds l i with ⟨_,ht,_⟩ | ⟨_,ht,_⟩ | ⟨_,ht,_⟩ | ⟨hk,_⟩ | ⟨_,ht,_⟩
  · rw [h] at ht;rcases hx with rfl | rfl <;> cases ht
  · rw [h] at ht;rcases hx with rfl | rfl
    · have:=ht 61 (by simp);cases this
    · have:=ht 46 (by simp);cases this
  · rw [h] at ht;rcases hx with rfl | rfl
    · have:=ht 61 (by simp);cases this
    · have:=ht 46 (by simp);cases this
  · exact hk
  · rw [h] at ht;rcases hx with rfl | rfl <;> cases ht
theorem tok_b {l:List Nat} (h8:∀ c∈l,c < 256) (i:Nat):∀ c∈(Qy.scan l i).text,c < 256:=by
  obtain ⟨r,h⟩:=Qy.scan_prefix l i;intro c hc;exact h8 c (List.dropWhile_suffix Qy.isWs |>.subset (by rw [h];exact List.mem_append_left _ hc))
theorem toks_next {s:ByteArray} {pos:Nat} {l r:List Qy.Tok} (hp:pos≤s.size) (h:Qy.toks ((sb s).drop pos) pos=l) (hl:l=Qy.scan ((sb s).drop pos) pos :: r) (hk:(Qy.scan ((sb s).drop pos) pos).text ≠ []∨(Qy.scan ((sb s).drop pos) pos).kind=2) :
    pos+Qy.ws ((sb s).drop pos)+(Qy.scan ((sb s).drop pos) pos).text.length≤s.size ∧
    Qy.toks ((sb s).drop (pos+Qy.ws ((sb s).drop pos)+(Qy.scan ((sb s).drop pos) pos).text.length)) (pos+Qy.ws ((sb s).drop pos)+(Qy.scan ((sb s).drop pos) pos).text.length)=r:=by
  have hf:=Qy.scan_fits ((sb s).drop pos) pos;rw [List.length_drop,q3j] at hf;refine ⟨by omega,?_⟩;have hb:((Qy.scan ((sb s).drop pos) pos).kind == 0 || (Qy.scan ((sb s).drop pos) pos).kind == 4)=false:=by
    rcases Qy.scan_kinds ((sb s).drop pos) pos with ⟨k,t,_⟩ | ⟨k,_⟩ | ⟨k,_⟩ | ⟨k,_⟩ | ⟨k,t,_⟩ <;> rw [k]
    · rcases hk with hk | hk
      · exact (hk t).elim
      · omega
    · rfl
    · rfl
    · rfl
    · rcases hk with hk | hk
      · exact (hk t).elim
      · omega
  rw [Qy.toks_eq,hb] at h;simp only [cond_false] at h;rw [← h,List.drop_drop] at hl;injection hl with _ hl;rw [← hl,Nat.add_assoc]
set_option maxRecDepth 100000 in
set_option maxHeartbeats 4000000 in
theorem z0u (g:Nat) (s:ByteArray) (st:PS) (k:Nat) (x:List Nat) (hX:TokX k x) (hs:s.size≤1000000) (w:World) (h:PSt w g s st) :
    Calls Tryz.prog 197 #[.pointer (some ⟨g,0,none⟩),.agg (tkC k x).toArray] w fun e w'=>∃ b:Bool,e=.returned (.bool b)∧w.grownBy w' (some g) ∧
      (b=true∧(∃ l r,st=.ok l∧Qy.acc x l=some r∧PSt w' g s (.ok r))∨b=false∧PSt w' g s st∧∀ l,st=.ok l→Qy.acc x l=none):=by
  refine q0l Tryz.func197 rfl Tryz.ntmps197 rfl ?_;have hg0:=h.lt;(refine q0b<|q0a ?_);refine q3t (l:=tkC k x) rfl ?_;intro g3 w1 B3 hg3 E1 hs1;have h:=h.ext E1;(refine a_B rfl<|q0c<|tn<|q0b<|q0b ?_);cases st with
  | error e =>
    obtain ⟨pos,off,err,hp,hB,h1,h2,h3⟩:=h;have herr:¬ (err:Int)=0:=(by omega);skip;apply q1r 11 (by kernel_rfl);(apply DW_x (fun r w hA hH=>(q0d (v:=.pointer _) rfl).trans rfl);apply DW_x (fun r w hA hH=>(q1l rfl).trans rfl);apply DW_x (fun r w hA hH=>(q0g rfl).trans rfl);apply DW_x (fun r w hA hH=>(X_ld rfl (hB.ext hA) rfl).trans rfl);apply DW_x (fun r w hA hH=>(q4d rfl rfl (by omega)).trans rfl);apply DW_x (fun r w hA hH=>(q0d (v:=.bool _) rfl).trans rfl);apply q0x rfl rfl (fun _=>rfl) rfl;apply q0x rfl rfl (fun _=>rfl) rfl;apply q0x rfl rfl (fun _=>rfl) rfl;apply q0x rfl rfl (fun _=>rfl) rfl;apply DW_x (fun r w hA hH=>(q0k (v:=.bool _) rfl rfl).trans rfl));((with_reducible exact q2e);(exact rfl);(repeat (first | exact .inr (.inr (fun _ _=>by with_reducible rfl)) | (refine And.intro ?_ ?_) | exact .inr (.inl rfl) | exact .inl (by decide +kernel) | exact trivial | exact .inr (.inr (fun _ _=>rfl))));(try dsimp only [Nat.reduceAdd]));intro r w2 E2 _;(refine q0c<|tn<|q0v rfl<|q0b<|q0a<|a_B rfl<|q0c<|tn<|q0r<|tr ?_);exact q0i rfl rfl (v:=.bool false) rfl ⟨false,rfl,(E1.trans E2).row _,.inr ⟨rfl,⟨pos,off,err,hp,hB.ext E2,h1,h2,h3⟩,fun l hl=>by cases hl⟩⟩
  | ok l =>
    obtain ⟨pos,off,err,hp,hB,rfl,rfl,ht⟩:=h;obtain ⟨hta,r0,hl⟩:=z3j ht;have hnx:=fun hk=>toks_next hp ht hl hk;have hpk:=fun (w:World) hB=>gpeek g s pos 0 0 hp hs w hB;have hp':=pos_ws hp;have hXt:=hX.t ((sb s).drop pos) pos;have htb:=tok_b (l:=(sb s).drop pos) (fun c hc=>z0q s c (List.mem_of_mem_drop hc)) pos;have htl:(Qy.scan ((sb s).drop pos) pos).text.length≤s.size:=by
      have:=Qy.scan_fits ((sb s).drop pos) pos;rw [List.length_drop,q3j] at this;omega
    have hkk:(Qy.scan ((sb s).drop pos) pos).kind < 256:=by
      rcases Qy.scan_kinds ((sb s).drop pos) pos with ⟨k,_⟩ | ⟨k,_⟩ | ⟨k,_⟩ | ⟨k,_⟩ | ⟨k,_⟩ <;> omega
    obtain ⟨t,hT⟩:∃ t,t=Qy.scan ((sb s).drop pos) pos:=⟨_,rfl⟩;obtain ⟨p',hpe⟩:∃ p',p'=pos+Qy.ws ((sb s).drop pos):=⟨_,rfl⟩;rw [← hT,← hpe] at hnx;rw [← hpe] at hp' hta;rw [← hT] at hXt htb htl hkk hl;simp only [← hT,← hpe] at hpk;clear hT hpe;have h13:g3 ≠ g:=(by omega);obtain ⟨q,hq⟩:∃ q,q=decide (¬ (t.kind=k∧t.text=x)):=⟨_,rfl⟩;have hq':q=true↔¬ (t.kind=k∧t.text=x):=(by rw [hq,decide_eq_true_iff]);apply W_dagG 7 g (fun w'=>Blk w' g 216 (pC s pos 0 0)) 11 (by kernel_rfl) (hB.ext (Ext.drew _)) (fun _ _ E h=>h.ext E);(apply DW_x (fun r w hA hH=>(q0d (v:=.pointer _) rfl).trans rfl);apply DW_x (fun r w hA hH=>(q1l rfl).trans rfl);apply DW_x (fun r w hA hH=>(q0g rfl).trans rfl);apply DW_x (fun r w hA hH=>(X_ld rfl (hA.pre (.inr rfl)) rfl).trans rfl);apply DW_x (fun r w hA hH=>(q3g rfl rfl (by omega)).trans rfl);apply DW_x (fun r w hA hH=>(q0d (v:=.bool _) rfl).trans rfl);apply q1f rfl rfl (fun _=>rfl) (fun r w hA hH=>(q0d (v:=.pointer _) rfl).trans rfl));((with_reducible apply DW_fr2 (F:=fun v w'=>v=.agg (tkC t.kind t.text).toArray∧Blk w' g 216 (pC s p' 0 0)));(exact rfl);(exact rfl);(exact fun _=>rfl);(exact fun _=>rfl);(exact fun r w hA hH=>(hpk w (hA.pre (.inl rfl))).mono fun e w' ⟨he,hg,hb⟩=>⟨_,he,.inr ⟨rfl,hg⟩,rfl,hb⟩);(exact fun i u w w' hi ht hR h=>⟨h.1,h.2.ext (hR.other hi)⟩));(apply q1f rfl rfl (fun _=>rfl) (fun r w hA hH=>(q2o (size:=2) rfl (B3.grown hA.g (by simp;omega)) rfl).trans rfl));((with_reducible apply q1f);(exact rfl);(exact rfl);(exact fun _=>rfl);(exact fun r w hA hH=>(X_neqTok hkk hX.kk (by omega) (by have:=hX.l;omega) htb hX.b (by exact (hH 7 rfl).1) rfl hq').trans rfl));(apply DW_x (fun r w hA hH=>(q0p (v:=.bool _) rfl rfl).trans rfl));((with_reducible exact q2e);(exact rfl);(repeat (first | exact .inr (.inr (fun _ _=>by with_reducible rfl)) | (refine And.intro ?_ ?_) | exact .inr (.inl rfl) | exact .inl (by decide +kernel) | exact trivial | exact .inr (.inr (fun _ _=>rfl))));(try dsimp only [Nat.reduceAdd]));intro r w2 G2 H2;obtain ⟨_,B2⟩:_∧Blk w2 g 216 (pC s p' 0 0):=H2 7;have C3:=B3.grown G2 (by simp;omega);have Ga:=q0f (E1.row (some g)) G2 (fun g h=>.inl h);by_cases hhit:t.kind=k∧t.text=x
    · obtain rfl:q=false:=(by rw [hq,decide_eq_false (by simpa using hhit)]);obtain ⟨hn1,hn2⟩:=hnx (.inl (by rw [hhit.2];exact hX.ne));rw [hhit.2] at hn1 hn2;(refine q0c<|tn<|q0q rfl<|q0o<|tn<|q0b ?_);apply q1r 10 (by kernel_rfl);(apply DW_x (fun r w hA hH=>(q0d (v:=.pointer _) rfl).trans rfl);apply DW_x (fun r w hA hH=>(q1l rfl).trans rfl);apply DW_x (fun r w hA hH=>(q0g rfl).trans rfl);apply DW_x (fun r w hA hH=>(X_ld rfl (B2.ext hA) rfl).trans rfl);apply DW_x (fun r w hA hH=>(q0g rfl).trans rfl);apply DW_x (fun r w hA hH=>(X_ld rfl (C3.ext hA) rfl).trans rfl);apply DW_x (fun r w hA hH=>((q2b (s:=strB x) rfl).trans (by rw [q5x])).trans rfl);apply DW_x (fun r w hA hH=>(q1e rfl rfl (by omega)).trans rfl);apply DW_x (fun r w hA hH=>(q1l rfl).trans rfl);apply DW_x (fun r w hA hH=>(q0g rfl).trans rfl));((with_reducible exact q2e);(exact rfl);(repeat (first | exact .inr (.inr (fun _ _=>by with_reducible rfl)) | (refine And.intro ?_ ?_) | exact .inr (.inl rfl) | exact .inl (by decide +kernel) | exact trivial | exact .inr (.inr (fun _ _=>rfl))));(try dsimp only [Nat.reduceAdd]));intro r3 w3 E3 _;refine q1a rfl (v:=.int _ _) rfl rfl (B2.ext E3) (by simp [pC]) ?_;intro w4 B4 hg4 _;(refine q0c<|tn<|q0b<|q0a<|a_B rfl<|q0c<|tn<|q0r ?_);refine q0i rfl rfl (v:=.bool true) rfl ⟨true,rfl,q0f (q0f Ga E3 (fun _ h=>by cases h)) hg4 (fun g h=>.inl h),.inl ⟨rfl,l,r0,rfl,?_,p'+x.length,0,0,hn1,?_,rfl,rfl,hn2⟩⟩
      · rw [hl];simp [Qy.acc,hhit.2]
      · rw [show pC s (p'+x.length) 0 0=(pC s p' 0 0).set 1 (.int .i64 ((p':Int)+(x.length:Nat))) from by simp [pC]];exact B4
    · obtain rfl:q=true:=(by rw [hq,decide_eq_true hhit]);(refine q0c<|tn<|q0v rfl<|q0b<|q0a<|a_B rfl<|q0c<|tn<|q0r<|tr ?_);refine q0i rfl rfl (v:=.bool false) rfl ⟨false,rfl,Ga,.inr ⟨rfl,⟨p',0,0,hp',B2,rfl,rfl,hta⟩,fun l' hl'=>?_⟩⟩;injection hl' with hl';rw [← hl',hl];have:¬ t.text=x:=fun e=>hhit ⟨hXt e,e⟩;simp [Qy.acc,this]
theorem z3q {k:IntKind} {a b:Int} (h:a=b):Ending.returned (.int k a)=.returned (.int k b):=by rw [h]
theorem var_of_heap {P:Program} {w w':World} {name:String} {g:Nat} (hg:P.globalNamed name=some g) (hh:w'.heap[g]?=w.heap[g]?):w'.var? P name=w.var? P name:=by
  unfold World.var?;rw [hg];simp only [Option.bind_some,hh]
theorem gPow:Tryz.prog.globalNamed "internal/strconv.uint64pow10"=some 6:=by kernel_rfl
theorem Tabs.grown {w w':World} {g:Nat} (h:Tabs w) (hG:w.grownBy w' (some g)) (h1:g ≠ 6) (h2:g ≠ 8):Tabs w':=by
  obtain ⟨te,pe,he⟩:=h.e;have l1:6 < w.heap.size:=World.block_lt_of_cell? w ⟨6,0,none⟩ (h.p.cell gPow 0 (by decide));have l2:8 < w.heap.size:=World.block_lt_of_cell? w ⟨8,0,none⟩ he;refine ⟨(var_of_heap gPow (hG.block _ l1 (fun e=>h1 (by injection e with e;exact e.symm)))).trans h.p,te,pe,?_⟩;rw [← he];unfold World.cell?;rw [hG.block _ l2 (fun e=>h2 (by injection e with e;exact e.symm))]
theorem PSt.tabs {w w':World} {g:Nat} {s:ByteArray} {st:PS} (hp:PSt w g s st) (h:Tabs w) (hG:w.grownBy w' (some g)):Tabs w':=by
  obtain ⟨pos,off,err,_,hB,_⟩:=hp;have hc:=hB.cell 0;refine h.grown hG (fun e=>?_) (fun e=>?_)
  · subst e;rw [h.p.cell gPow 0 (by decide)] at hc;cases hc
  · subst e;obtain ⟨te,pe,he⟩:=h.e;rw [he] at hc;cases hc
section
variable {P:Program} {n:NN} {f:Fr} {w:World} {d:Option Tmp} {t ty ty':TypeId} {pos:String} {af:Array Edge} {g:Option (Nat × Bool)} {x y:Operand}
theorem X_neqNilF (hx:ev n f x=.nilIface) (hu:P.underlying ty=some (.interface (P.methodsAt ty))):X P n ⟨d,.binOp .neq ty x (.const .nilIface) ty',t,pos,af,g⟩ f w=.ok (.value (.bool false)) w:=by
  have e:=run_equal_nil_nil w ty hu;have e2:ev n f (.const .nilIface)=.nilIface:=rfl;simp [X,execOp,hx,e2,eqGuard_nil_constR,binOp,e,Result.andThen]
theorem X_neqNilT {te:TypeId} {pe:Value} (hx:ev n f x=.iface te pe) (hu:P.underlying ty=some (.interface (P.methodsAt ty))):X P n ⟨d,.binOp .neq ty x (.const .nilIface) ty',t,pos,af,g⟩ f w=.ok (.value (.bool true)) w:=by
  have e:=run_equal_held_nil w ty te pe hu;have e2:ev n f (.const .nilIface)=.nilIface:=rfl;have e3:∀ c:Operand,eqGuard .neq ty x c (.iface te pe) .nilIface=pure ():=fun _=>rfl;simp [X,execOp,hx,e2,e3,binOp,e,Result.andThen]
end
theorem gexpect (g:Nat) (s:ByteArray) (st:PS) (k:Nat) (x:List Nat) (hX:TokX k x) (hs:s.size≤1000000) (w:World) (h:PSt w g s st) :
    Calls Tryz.prog 201 #[.pointer (some ⟨g,0,none⟩),.agg (tkC k x).toArray] w fun e w'=>e=.returned (.tuple #[])∧w.grownBy w' (some g)∧PSt w' g s (after st (Qy.expect x)):=by
  refine q0l Tryz.func201 rfl Tryz.ntmps201 rfl ?_;(refine q0b<|q0a ?_);refine q3t (l:=tkC k x) rfl ?_;intro g3 w1 B3 hg3 E1 hs1;have h:=h.ext E1;(refine q0c<|tn<|q0b<|q0a<|m_P rfl<|Ls (q2o (size:=2) rfl B3 rfl) ?_);refine L_fn (z0u g s st k x hX hs w1 h) rfl ?_;rintro e w2 ⟨b,rfl,G2,hb⟩;refine ⟨_,rfl,?_⟩;have Ga:=q0f (E1.row (some g)) G2 (fun g h=>.inl h);rcases hb with ⟨rfl,l,r,rfl,ha,hP⟩ | ⟨rfl,hP,hno⟩
  · (refine Ls (q2d rfl)<|q0c<|tn<|q0q rfl<|q0o ?_);refine q1z rfl rfl ⟨rfl,Ga,?_⟩;simpa [after,Qy.expect,ha] using hP
  · (refine Ls (q2d rfl)<|q0c<|tn<|q0v rfl<|q0a<|m_P rfl ?_);refine L_fn (q6a g s st hs w2 hP) rfl ?_;rintro e w3 ⟨rfl,G3,hP3⟩;refine ⟨_,rfl,?_⟩;(refine q0c ?_);refine q1z rfl rfl ⟨rfl,q0f Ga G3 (fun g h=>.inl h),?_⟩;cases st with
    | error e=>exact hP3
    | ok l=>simpa [after,unx,Qy.expect,hno l rfl] using hP3
theorem tErr:Tryz.prog.underlying 378=some (.interface (Tryz.prog.methodsAt 378)):=by kernel_rfl
set_option maxRecDepth 100000 in
set_option maxHeartbeats 8000000 in
theorem z3v (g:Nat) (s:ByteArray) (st:PS) (lo hi:Nat) (hlo:lo≤1073741824) (hhi:hi≤65536) (hs:s.size≤100000) (w:World) (hw:Tabs w) (h:PSt w g s st) :
    Calls Tryz.prog 199 #[.pointer (some ⟨g,0,none⟩),.int .i64 (lo:Nat),.int .i64 (hi:Nat)] w fun e w'=>∃ n:Nat,e=.returned (.int .i64 (n:Nat))∧n≤1073741824∧w.grownBy w' (some g) ∧
      PSt w' g s (after st (Qy.num lo hi))∧q4f st (Qy.num lo hi) n:=by
  refine q0l Tryz.func199 rfl Tryz.ntmps199 rfl ?_;obtain ⟨pos,off,err,hp,hB,hst⟩:=id h;have hg0:=hB.lt;have hp':=pos_ws hp;have hkinds:=Qy.scan_kinds ((sb s).drop pos) pos;have htb:=tok_b (l:=(sb s).drop pos) (fun c hc=>z0q s c (List.mem_of_mem_drop hc)) pos;have htl:(Qy.scan ((sb s).drop pos) pos).text.length≤s.size:=by
    have:=Qy.scan_fits ((sb s).drop pos) pos;rw [List.length_drop,q3j] at this;omega
  have hpk:=fun (w:World) hB=>gpeek g s pos off err hp (by omega) w hB;have hoff:=Qy.scan_off ((sb s).drop pos) pos;have hsk:∀ l,st=.ok l→off=0∧err=0∧(∃ r,l=Qy.scan ((sb s).drop pos) pos :: r∧((Qy.scan ((sb s).drop pos) pos).kind=2→pos+Qy.ws ((sb s).drop pos)+(Qy.scan ((sb s).drop pos) pos).text.length≤s.size ∧
      Qy.toks ((sb s).drop (pos+Qy.ws ((sb s).drop pos)+(Qy.scan ((sb s).drop pos) pos).text.length)) (pos+Qy.ws ((sb s).drop pos)+(Qy.scan ((sb s).drop pos) pos).text.length)=r))∧Qy.toks ((sb s).drop (pos+Qy.ws ((sb s).drop pos))) (pos+Qy.ws ((sb s).drop pos))=l:=fun l hl=>by
    subst hl;obtain ⟨h1,h2,h3⟩:=hst;obtain ⟨h4,r,h5⟩:=z3j h3;exact ⟨h1,h2,⟨r,h5,fun hk=>toks_next hp h3 h5 (.inr hk)⟩,h4⟩
  have hse:∀ e,st=.error e→off=e.1∧err=e.2∧e.2 ≠ 0:=fun e he=>by subst he;exact hst
  clear hst;obtain ⟨t,hT⟩:∃ t,t=Qy.scan ((sb s).drop pos) pos:=⟨_,rfl⟩;obtain ⟨p',hpe⟩:∃ p',p'=pos+Qy.ws ((sb s).drop pos):=⟨_,rfl⟩;simp only [← hT,← hpe] at hpk hsk hkinds htb htl hp' hoff;clear hT hpe;(refine q0b<|q0a<|a_I rfl<|q0c<|tn<|q0b<|q0a<|m_P rfl ?_);refine L_fn (hpk w hB) rfl ?_;rintro e w1 ⟨rfl,G1,B1⟩;refine ⟨_,rfl,?_⟩;refine q0z ?_;intro g2 w2 B2 hg2 E2 hs2;have hz:=G1.size;refine q0m (size:=2) rfl rfl rfl q6m B2 rfl ?_;intro w3 B3 hg3 hs3;have C3:=(B1.ext E2).grown hg3 (by simp;omega);have G3:w.grownBy w3 (some g):=q0f (q0f G1 E2 (fun _ h=>by cases h)) hg3 (fun g h=>by cases h;exact .inr (by omega));have hw3:=h.tabs hw G3;by_cases hk:t.kind=2
  · obtain ⟨hd,hne⟩:(∀ c∈t.text,Qy.isDi c=true)∧t.text ≠ []:=by
      rcases hkinds with ⟨k,_⟩ | ⟨k,_⟩ | ⟨_,h⟩ | ⟨k,_⟩ | ⟨k,_⟩ <;> first | exact h | omega
    obtain ⟨v,hv⟩:∃ v,v=Qy.val t.text:=⟨_,rfl⟩;have hat:=gatoi t.text hne hd (by omega) w3 hw3;rw [← hv] at hat;obtain ⟨m,hm⟩:∃ m,m=min v 1073741824:=⟨_,rfl⟩;have hgood:(lo≤m∧m≤hi↔lo≤v∧v≤hi):=(by omega);have hm2:m≤1073741824:=(by omega)
    -- what the rest makes of it
    have fin:∀ (w5:World),w.grownBy w5 (some g)→(Blk w5 g 216 (pC s (p'+t.text.length) 0 0)∧err=0∧(lo≤m∧m≤hi)∨Blk w5 g 216 (pC s p' p' 1)∧err=0∧¬ (lo≤m∧m≤hi)∨Blk w5 g 216 (pC s p' off err)∧err ≠ 0) →
        ∃ n:Nat,Ending.returned (.int .i64 (m:Nat))=.returned (.int .i64 (n:Nat))∧n≤1073741824∧w.grownBy w5 (some g)∧PSt w5 g s (after st (Qy.num lo hi))∧q4f st (Qy.num lo hi) n:=by
      intro w5 G5 hB5;have hk2:(t.kind == 2)=true:=(by simp [hk]);refine ⟨m,rfl,hm2,G5,?_,?_⟩
      · cases st with
        | error e =>
          obtain ⟨h1,h2,h3⟩:=hse e rfl;rcases hB5 with ⟨_,h,_⟩ | ⟨_,h,_⟩ | ⟨hB5,_⟩
          · omega
          · omega
          · exact ⟨p',off,err,hp',hB5,h1,h2,h3⟩
        | ok l =>
          obtain ⟨h1,h2,⟨r,hl,hr⟩,h4⟩:=hsk l rfl;obtain ⟨hr1,hr2⟩:=hr hk;subst hl;rcases hB5 with ⟨hB5,_,hgd⟩ | ⟨hB5,_,hgd⟩ | ⟨_,h⟩
          · have hgd':=hgood.1 hgd;have hn:Qy.num lo hi (t :: r)=.ok (v,r):=by
              simp only [Qy.num,hk2,cond_true,← hv,Nat.ble_eq_true_of_le hgd'.1,Nat.ble_eq_true_of_le hgd'.2,Bool.and_true]
            simp only [after,hn];exact ⟨_,0,0,hr1,hB5,rfl,rfl,hr2⟩
          · have hn:Qy.num lo hi (t :: r)=.error (t.off,1):=by
              have hb:(Nat.ble lo v && Nat.ble v hi)=false:=by
                rw [Bool.eq_false_iff];intro hh;simp at hh;exact hgd (hgood.2 hh)
              simp only [Qy.num,hk2,cond_true,← hv,hb,cond_false]
            simp only [after,hn];exact ⟨p',p',1,hp',hB5,hoff.symm,rfl,by simp⟩
          · exact (h h2).elim
      · intro l hl a q ha;obtain ⟨_,_,⟨r,hl',_⟩,_⟩:=hsk l hl;subst hl';simp only [Qy.num,hk2,cond_true,← hv] at ha;cases hb:(Nat.ble lo v && Nat.ble v hi)
        · rw [hb] at ha;cases ha
        · rw [hb] at ha;simp at hb;injection ha with ha;injection ha with ha _;omega
    (refine q0c<|tn<|q0b<|q0b<|q0a<|Ls (q0g rfl)<|Ls (X_ld rfl B3 rfl)<|Ls (q3g rfl rfl (by omega))<|q0c<|tn<|q0q rfl<|q0o<|tn<|q0b<|q0a<|Ls (q0g rfl)<|Ls (X_ld rfl B3 rfl) ?_);refine L_fn hat rfl ?_;rintro e w4 ⟨n,ev,rfl,E4,hev⟩;refine ⟨_,rfl,?_⟩;have C4:=C3.ext E4;have B4:=B3.ext E4;have G4:=q0f G3 E4 (fun _ h=>by cases h);clear B3 C3 B1 hB B2;rcases hev with ⟨hev,rfl⟩ | ⟨⟨ty,pe,hev⟩,hbig⟩;case' inl=>by_cases hsm:v≤1073741824
    case' pos=>have hmm:m=v:=by omega
    case' neg=>have hmm:m=1073741824:=by omega
    case' inr=>have hmm:m=1073741824:=by omega
    all_goals
      clear hm hgood hkinds hat hpk hd hne htb hw hw3 hv
      by_cases hl:m < lo
    all_goals (try (exfalso;omega))
    all_goals by_cases hbad:lo≤m∧m≤hi
    all_goals (try (exfalso;omega))
    all_goals by_cases he0:err=0
    all_goals repeat (first | (with_reducible refine tn ?_) | (with_reducible refine q0b ?_) | (with_reducible refine q0a ?_) | (with_reducible refine q0o ?_) | (with_reducible refine q0r ?_) | (with_reducible refine q0c ?_) | ((with_reducible refine q4m ?_);(first | ((with_reducible refine i_ng ?_);(first | refine Ls (q0d (v:=.int _ _) rfl) ?_ | refine Ls (q0d (v:=.bool _) rfl) ?_ | refine Ls (q0d (v:=.pointer _) rfl) ?_ | refine Ls (q0d (v:=.tuple _) rfl) ?_ | refine Ls (q0d (v:=ev) rfl) ?_)) | ((with_reducible refine i_gd ?_);refine Lg2 rfl rfl rfl (q0d (v:=.int _ _) rfl) ?_))) | ((with_reducible refine q3a ?_);((with_reducible refine i_ng ?_);(first | refine Ls (q0e (v:=.int _ _) rfl) ?_ | refine Ls (q0e (v:=ev) rfl) ?_))) | ((with_reducible refine q8v ?_);((with_reducible refine i_ng ?_);(first | refine Ls (q2p rfl rfl (by omega)) ?_ | refine Ls (q3e rfl rfl (by omega)) ?_))) | ((with_reducible refine q8w ?_);((with_reducible refine i_gd ?_);(first | refine Lg2 rfl rfl rfl (z3d rfl rfl (by omega)) ?_ | refine Lg2 rfl rfl rfl (q9e rfl rfl (by omega)) ?_))) | ((with_reducible refine q8y ?_);((with_reducible refine i_ng ?_);(first | refine Ls (q3h rfl rfl (by omega)) ?_ | refine Ls (q4e rfl rfl (by omega)) ?_))) | ((with_reducible refine q6p ?_);((with_reducible refine i_ng ?_);(first | refine Ls (X_neqNilT hev tErr) ?_ | refine Ls (X_neqNilF hev tErr) ?_))) | ((with_reducible refine q6q ?_);((with_reducible refine i_ng ?_);refine Ls (q0g rfl) ?_)) | ((with_reducible refine q8u ?_);((with_reducible refine i_ng ?_);refine Ls (q1l rfl) ?_)) | ((with_reducible refine q8x ?_);((with_reducible refine i_ng ?_);refine Ls (q0u rfl rfl) ?_)) | ((with_reducible refine q4l ?_);((with_reducible refine i_ng ?_);(first | refine Ls (q0k (v:=.bool _) rfl rfl) ?_ | refine Ls (q0p (v:=.bool _) rfl rfl) ?_))) | ((with_reducible refine q9t ?_);((with_reducible refine i_ng ?_);refine Ls (X_ld rfl C4 rfl) ?_)) | ((with_reducible refine i_gd ?_);refine Lo2 rfl rfl rfl rfl ?_) | (with_reducible refine q0v rfl ?_) | (with_reducible refine q0q rfl ?_))
    all_goals first
      | (have hgd:=hbad.1
         have hz0:err=0:=he0
         apply q1r 10 (by kernel_rfl)
         (apply DW_x (fun r w hA hH=>(q0d (v:=.pointer _) rfl).trans rfl);apply DW_x (fun r w hA hH=>(q1l rfl).trans rfl);apply DW_x (fun r w hA hH=>(q0g rfl).trans rfl);apply DW_x (fun r w hA hH=>(X_ld rfl (C4.ext hA) rfl).trans rfl);apply DW_x (fun r w hA hH=>(q0g rfl).trans rfl);apply DW_x (fun r w hA hH=>(X_ld rfl (B4.ext hA) rfl).trans rfl);apply DW_x (fun r w hA hH=>((q2b (s:=strB t.text) rfl).trans (by rw [q5x])).trans rfl);apply DW_x (fun r w hA hH=>(q1e rfl rfl (by omega)).trans rfl);apply DW_x (fun r w hA hH=>(q1l rfl).trans rfl);apply DW_x (fun r w hA hH=>(q0g rfl).trans rfl))
         ((with_reducible exact q2e);(exact rfl);(repeat (first | exact .inr (.inr (fun _ _=>by with_reducible rfl)) | (refine And.intro ?_ ?_) | exact .inr (.inl rfl) | exact .inl (by decide +kernel) | exact trivial | exact .inr (.inr (fun _ _=>rfl))));(try dsimp only [Nat.reduceAdd]))
         intro r5 w5 E5 _
         refine q1a rfl (v:=.int _ _) rfl rfl (C4.ext E5) (by simp [pC]) ?_
         intro w6 B6 hg6 _
         (refine q0c<|tn<|q0b<|q0a<|m_I rfl<|a_I rfl<|q0c<|tn<|q0r ?_)
         obtain ⟨n,en,hn⟩:=fin w6 (q0f (q0f G4 E5 (fun _ h=>by cases h)) hg6 (fun g h=>.inl h)) (.inl ⟨by
           have hoo:off=0:=by
             cases st with
             | ok l=>exact (hsk l rfl).1
             | error e=>obtain ⟨_,h2,h3⟩:=hse e rfl;omega
           rw [show pC s (p'+t.text.length) 0 0=(pC s p' off err).set 1 (.int .i64 ((p':Int)+(t.text.length:Nat))) from by simp [pC,hoo,he0]]
           exact B6,he0,hbad⟩)
         exact q0i rfl rfl (v:=.int _ _) rfl ⟨n,(z3q (by omega)).trans en,hn⟩)
      | (have hgd:=hbad.1
         obtain ⟨n,en,hn⟩:=fin w4 G4 (.inr (.inr ⟨C4,he0⟩))
         exact q0i rfl rfl (v:=.int _ _) rfl ⟨n,(z3q (by omega)).trans en,hn⟩)
      | (refine L_fn (gfail g s p' off err p' 1 w4 C4) rfl ?_
         rintro e w5 ⟨rfl,G5,B5⟩
         refine ⟨_,rfl,?_⟩
         have G5':=q0f G4 G5 (fun g h=>.inl h)
         rw [if_pos he0] at B5
         (refine q0c<|tn<|q0b<|q0b<|q0a<|m_P rfl<|Ls (q1l rfl)<|Ls (q0g rfl)<|Ls (X_ld rfl B5 rfl)<|Ls (q4e rfl rfl (by omega))<|q0c<|tn<|q0q rfl<|q0o<|tn<|q0b<|q0a<|m_I rfl<|a_I rfl<|q0c<|tn<|q0r ?_)
         obtain ⟨n,en,hn⟩:=fin w5 G5' (.inr (.inl ⟨B5,he0,hbad⟩))
         exact q0i rfl rfl (v:=.int _ _) rfl ⟨n,(z3q (by omega)).trans en,hn⟩)
      | (refine L_fn (gfail g s p' off err p' 1 w4 C4) rfl ?_
         rintro e w5 ⟨rfl,G5,B5⟩
         refine ⟨_,rfl,?_⟩
         have G5':=q0f G4 G5 (fun g h=>.inl h)
         rw [if_neg he0] at B5
         (refine q0c<|tn<|q0b<|q0b<|q0a<|m_P rfl<|Ls (q1l rfl)<|Ls (q0g rfl)<|Ls (X_ld rfl B5 rfl)<|Ls (q4e rfl rfl (by omega))<|q0c<|tn<|q0q rfl<|q0o<|tn<|q0b<|q0a<|m_I rfl<|a_I rfl<|q0c<|tn<|q0r ?_)
         obtain ⟨n,en,hn⟩:=fin w5 G5' (.inr (.inr ⟨B5,he0⟩))
         exact q0i rfl rfl (v:=.int _ _) rfl ⟨n,(z3q (by omega)).trans en,hn⟩)
  · have hP3:PSt w3 g s st:=by
      cases st with
      | ok l=>obtain ⟨h1,h2,_,h4⟩:=hsk l rfl;exact ⟨p',off,err,hp',C3,h1,h2,h4⟩
      | error e=>obtain ⟨h1,h2,h3⟩:=hse e rfl;exact ⟨p',off,err,hp',C3,h1,h2,h3⟩
    (refine q0c<|tn<|q0b<|q0b<|q0a<|Ls (q0g rfl)<|Ls (X_ld rfl B3 rfl)<|Ls (q4d rfl rfl (by omega))<|q0c<|tn<|q0v rfl<|q0b<|q0a<|m_P rfl ?_);refine L_fn (q6a g s st (by omega) w3 hP3) rfl ?_;rintro e w4 ⟨rfl,G4,hP4⟩;refine ⟨_,rfl,?_⟩;(refine q0c<|tn<|q0b<|q0a<|a_I rfl<|q0c<|tn<|q0r<|tr ?_);have hk2:(t.kind == 2)=false:=(by simp [hk]);refine q0i rfl rfl (v:=.int _ _) rfl ⟨0,rfl,by omega,q0f G3 G4 (fun g h=>.inl h),?_,?_⟩
    · cases st with
      | error e=>exact hP4
      | ok l =>
        obtain ⟨_,_,⟨r,hl,_⟩,_⟩:=hsk l rfl;subst hl;simpa [after,unx,Qy.num,hk2] using hP4
    · intro l hl a m ha;obtain ⟨_,_,⟨r,hl',_⟩,_⟩:=hsk l hl;subst hl';simp [Qy.num,hk2] at ha
theorem q2y {α β:Type} {st:PS} {r:List Qy.Tok→Qy.R α} {k:α→List Qy.Tok→Qy.R β} {v:α} (h:q4f st r v):after st (fun l=>Qy.bind (r l) k)=after (after st r) (k v):=by
  cases st with
  | error e=>rfl
  | ok l =>
    simp only [after];cases hr:r l with
    | error e=>rfl
    | ok p =>
      obtain ⟨a,m⟩:=p;obtain rfl:=h l rfl a m hr;rfl
theorem q3d {α β:Type} {st:PS} {r:List Qy.Tok→Qy.R α} {k:α→List Qy.Tok→Qy.R β} {v:α} {u:β} (h:q4f st r v) (h2:q4f (after st r) (k v) u):q4f st (fun l=>Qy.bind (r l) k) u:=by
  intro l hl a m ha;subst hl;dsimp only at ha;cases hr:r l with
  | error e=>rw [hr] at ha;cases ha
  | ok p =>
    obtain ⟨b,q⟩:=p;obtain rfl:=h l rfl b q hr;rw [hr] at ha;exact h2 q (by simp only [after,hr]) a m ha
theorem q5j {α:Type} (st:PS) (x:α):after st (fun l=>.ok (x,l))=st:=by cases st <;> rfl
theorem q5i {α:Type} (st:PS) (x:α):q4f st (fun l=>.ok (x,l)) x:=by
  intro l _ a m h;injection h with h;injection h with h _;exact h.symm
theorem q6f {α:Type} {st:PS} {r r':List Qy.Tok→Qy.R α} (h:∀ l,st=.ok l→r l=r' l):after st r=after st r':=by
  cases st with
  | error e=>rfl
  | ok l=>simp only [after,h l rfl]
theorem q6b {α:Type} {st:PS} {r r':List Qy.Tok→Qy.R α} {v:α} (h:∀ l,st=.ok l→r l=r' l) (hg:q4f st r' v):q4f st r v:=by
  intro l hl a m ha;rw [h l hl] at ha;exact hg l hl a m ha
theorem z0d {α:Type} {l m:List Qy.Tok} {r r':List Qy.Tok→Qy.R α} (h:r l=r' m):after (.ok l) r=after (.ok m) r':=by simp only [after,h]
theorem q9u {α:Type} {l m:List Qy.Tok} {r r':List Qy.Tok→Qy.R α} {v:α} (h:r l=r' m) (hg:q4f (.ok m) r' v):q4f (.ok l) r v:=by
  intro l' hl a q ha;injection hl with hl;subst hl;rw [h] at ha;exact hg m rfl a q ha
theorem names4_get {k:Nat} (h:k < 4):(strs names4)[k]?=some (.string (strB (Qy.name k))):=by
  have:k=0∨k=1∨k=2∨k=3:=by omega
  rcases this with rfl | rfl | rfl | rfl <;> rfl
theorem tokX_name (k:Nat):TokX 1 (Qy.name k):=q6u (Qy.name_ne k) (Qy.name_lo k) (by have:=Qy.name_len k;omega)
set_option maxRecDepth 100000 in
set_option maxHeartbeats 4000000 in
theorem gcolumn (g:Nat) (s:ByteArray) (st:PS) (hs:s.size≤100000) (w:World) (h:PSt w g s st) :
    Calls Tryz.prog 198 #[.pointer (some ⟨g,0,none⟩)] w fun e w'=>∃ c:Nat,e=.returned (.int .i64 (c:Nat))∧c < 4∧w.grownBy w' (some g)∧PSt w' g s (after st Qy.col)∧q4f st Qy.col c:=by
  refine q0l Tryz.func198 rfl Tryz.ntmps198 rfl ?_;have hg0:=h.lt;(refine q0b<|q0a<|a_I rfl<|q0c<|tn<|q0b<|q0b<|q0a ?_);refine L_fo rfl (gcolumns w) ?_;rintro q w1 ⟨E1,o1⟩;have hP1:=h.ext E1;have r1:Row w1 w.heap.size w1.heap.size 1 q 4 (strs names4):=Row.of_own o1;obtain ⟨b0,o0,c0,rfl,_,hb0,hb1,hc0⟩:=r1.at (k:=0) (by omega);(refine Ls (q0h rfl)<|m_I rfl<|q0c<|tn<|q0j ?_);refine q1k (fun z f w'=>∃ k,z=4 - k∧k≤4∧w1.grownBy w' (some g)∧PSt w' g s st∧(∀ l,st=.ok l→Qy.col l=Qy.colF (4 - k) k l)∧f 0=.pointer (some ⟨g,0,none⟩)∧f 5=.slice (some ⟨b0,o0,none⟩) 4 c0∧f 6=.int .i64 4∧f 7=.int .i64 (k:Nat)) 4 ?_ ?_
  · exact ⟨0,rfl,by omega,(Ext.refl _).row _,hP1,fun _ _=>rfl,rfl,rfl,rfl,rfl⟩
  · rintro z f w2 ⟨k,rfl,hk,G2,hP2,hcol,f0,f5,f6,f7⟩;rw [fold f0,fold f5,fold f6,fold f7];have r2:=r1.grown G2 (fun g' h=>by cases h;exact .inl hg0);have G02:=q0f (E1.row (some g)) G2 (fun g h=>.inl h);by_cases hk4:k < 4
    · obtain ⟨b,o,c,hq,_,_,_,hc⟩:=r2.at (k:=k) hk4;obtain ⟨rfl,rfl,rfl⟩:b0=b∧o0=o∧c0=c:=(by injection hq with a b c;injection a with a;injection a with a1 a2 _;exact ⟨a1,a2,c⟩);(refine q0b<|q0a<|Ls (q2p rfl rfl (by omega))<|q0c<|tn<|q0b<|q0v rfl<|q0o<|tn<|q0b<|q0j<|q0b<|q0a<|m_I rfl<|Ls (q0n rfl rfl (by omega))<|Ls (q2l (j:=k) (v:=.string (strB (Qy.name k))) rfl hc (by omega) (names4_get hk4))<|a_I rfl<|a_R rfl<|q0c<|tn<|q0b<|q0a<|m_P rfl<|m_R rfl ?_);refine Ls (q5p (k:=1) (u:=Qy.name k) rfl rfl rfl) ?_;refine L_fn (z0u g s st 1 (Qy.name k) (tokX_name k) (by omega) w2 hP2) rfl ?_;rintro e w3 ⟨b,rfl,G3,hb⟩;refine ⟨_,rfl,?_⟩;rcases hb with ⟨rfl,l,r,rfl,ha,hP3⟩ | ⟨rfl,hP3,hno⟩
      · have hcl:Qy.col l=.ok (k,r):=by
          rw [hcol l rfl,show 4 - k=(3 - k)+1 by omega];simp only [Qy.colF,ha]
        (refine q0c<|tn<|q0v rfl<|q0b<|q0a<|m_I rfl<|a_I rfl<|q0c<|tn<|q0r<|br<|tr<|tr<|br<|tr ?_);refine q0i rfl rfl (v:=.int _ _) rfl ⟨k,rfl,hk4,q0f G02 G3 (fun g h=>.inl h),?_,?_⟩
        · simpa [after,hcl] using hP3
        · intro l' hl' a m ha';injection hl' with hl';subst hl';rw [hcl] at ha';injection ha' with ha';injection ha' with ha' _;exact ha'.symm
      · (refine q0c<|tn<|q0q rfl<|q0o<|bn<|tn<|q0a<|Ls (q1e rfl rfl (by omega))<|m_I rfl<|q0c<|tn ?_);refine ⟨4 - (k+1),by omega,k+1,rfl,by omega,q0f G2 G3 (fun g h=>.inl h),hP3,fun l hl=>?_,rfl,rfl,rfl,rfl⟩;rw [hcol l hl,show 4 - k=(4 - (k+1))+1 by omega];simp only [Qy.colF,hno l hl]
    · obtain rfl:k=4:=(by omega);(refine q0b<|q0a<|Ls (q3e rfl rfl (by omega))<|q0c<|tn<|q0b<|q0q rfl<|q1b<|te<|te<|bx<|tn<|q0b<|q0a<|m_P rfl ?_);refine L_fn (q6a g s st (by omega) w2 hP2) rfl ?_;rintro e w3 ⟨rfl,G3,hP3⟩;refine ⟨_,rfl,?_⟩;(refine q0c<|tn<|q0b<|q0a<|a_I rfl<|q0c<|tn<|q0r ?_);refine q0i rfl rfl (v:=.int _ _) rfl ⟨0,rfl,by omega,q0f G02 G3 (fun g h=>.inl h),?_,?_⟩
      · cases st with
        | error e=>exact hP3
        | ok l=>simpa [after,unx,hcol l rfl,Qy.colF] using hP3
      · intro l hl a m ha;rw [hcol l hl] at ha;simp [Qy.colF] at ha
theorem tokX_eq:TokX 3 Qy.tEq:=tokX_sym (.inl rfl)
theorem tokX_dots:TokX 3 Qy.tDots:=tokX_sym (.inr rfl)
theorem tokX_in:TokX 1 Qy.tIn:=q6u (by decide) (by decide) (by decide)
theorem tokX_where:TokX 1 Qy.tWhere:=q6u (by decide) (by decide) (by decide)
theorem tokX_and:TokX 1 Qy.tAnd:=q6u (by decide) (by decide) (by decide)
theorem tokX_with:TokX 1 Qy.tWith:=q6u (by decide) (by decide) (by decide)
theorem X_mkCond1 {n:NN} {f:Fr} {w:World} {d:Option Tmp} {t:TypeId} {pos:String} {af:Array Edge} {g:Option (Nat × Bool)} {x:Operand} {c:Int} (hx:ev n f x=.int .i64 c) :
    X Tryz.prog n ⟨d,.build 257 #[(0,x)],t,pos,af,g⟩ f w=.ok (.value (.agg (cndI (c,0,0)).toArray)) w:=by
  have:=q1x (P:=Tryz.prog) (ty:=257) (n:=n) (f:=f) (w:=w) (d:=d) (t:=t) (pos:=pos) (af:=af) (g:=g) (Parts.cons (i:=0) (z:=[.int .i64 0]) hx rfl rfl rfl (Parts.nil _));simpa [cndI] using this
set_option maxRecDepth 100000 in
set_option maxHeartbeats 8000000 in
theorem gcond (g:Nat) (s:ByteArray) (st:PS) (hs:s.size≤100000) (w:World) (hw:Tabs w) (h:PSt w g s st) :
    Calls Tryz.prog 301 #[.pointer (some ⟨g,0,none⟩)] w fun e w'=>∃ c:Qy.Cnd,e=.returned (.agg (cndI (Qy.liC c)).toArray)∧w.grownBy w' (some g)∧PSt w' g s (after st Qy.cond)∧q4f st Qy.cond c:=by
  refine q0l Tryz.func301 rfl Tryz.ntmps301 rfl ?_;have hg0:=h.lt;(refine q0b<|q0a ?_);refine q0z ?_;intro g2 w1 B2 hg2 E1 hs1;(refine q0c<|tn<|q0b<|q0a<|m_P rfl ?_);refine L_fn (gcolumn g s st hs w1 (h.ext E1)) rfl ?_;rintro e w2 ⟨c,rfl,hc4,G2,hP2,hv2⟩;refine ⟨_,rfl,?_⟩;refine Ls (X_mkCond1 rfl) ?_;refine q0z ?_;intro g3 w3 B3 hg3 E3 hs3;have hz2:=G2.size;refine q0m (size:=3) rfl rfl rfl q9z B3 rfl ?_;intro w4 B4 hg4 hs4;have C2:=((B2.grown G2 (by simp;omega)).ext E3).grown hg4 (by simp;omega);have hP4:=(hP2.ext E3).grown hg4 (by simp;omega);have G4:w.grownBy w4 (some g):=q0f (q0f (q0f (E1.row (some g)) G2 (fun g h=>.inl h)) E3 (fun _ h=>by cases h)) hg4 (fun g h=>by cases h;exact .inr (by omega));(refine q0c<|tn<|q0b<|q0a<|Ls (q0g rfl)<|Ls (X_ld rfl B4 rfl) ?_);have hcm:=gcmax (c:Int) w4;rw [Qy.cmaxI_nat] at hcm;refine L_fv rfl (hcm) ?_;intro w5 E5;have D2:=C2.ext E5;have D3:=B4.ext E5;have hP5:=hP4.ext E5;have G5:=q0f G4 E5 (fun _ h=>by cases h);have hcb:=Qy.cmax_le c;(refine a_I rfl<|q0c<|tn<|q0b<|q0b<|q0a<|m_P rfl ?_);refine Ls (q5p (k:=3) (u:=Qy.tEq) rfl rfl rfl) ?_;refine L_fn (z0u g s (after st Qy.col) 3 Qy.tEq tokX_eq (by omega) w5 hP5) rfl ?_;rintro e w6 ⟨b,rfl,G6,hb⟩;refine ⟨_,rfl,?_⟩;have F2:=D2.grown G6 (by simp;omega);have F3:=D3.grown G6 (by simp;omega);have G06:=q0f G5 G6 (fun g h=>.inl h);have ab:=q2y (k:=Qy.cond1) hv2;have gb:=fun {u}=>q3d (k:=Qy.cond1) (u:=u) hv2;have e0:(fun l=>Qy.bind (Qy.col l) Qy.cond1)=Qy.cond:=rfl;rw [e0] at ab;simp only [e0] at gb;rw [ab];have hw6:=h.tabs hw G06;generalize after st Qy.col=s1 at *;clear ab e0 hv2 hP2 hP4 B2 B3 B4 C2 D2 D3;rcases hb with ⟨rfl,l,r,rfl,ha,hP6⟩ | ⟨rfl,hP6,hno⟩
  · have hr:Qy.cond1 c l=Qy.bind (Qy.num 0 (Qy.cmax c) r) fun n r=>.ok ((c,n,n),r):=(by simp only [Qy.cond1,ha]);(refine q0c<|tn<|q0v rfl<|q0b<|q0a<|m_P rfl<|m_I rfl ?_);refine L_fn (z3v g s (.ok r) 0 (Qy.cmax c) (by omega) (by omega) hs w6 hw6 hP6) rfl ?_;rintro e w7 ⟨n,rfl,_,G7,hP7,hv7⟩;refine ⟨_,rfl,?_⟩;(refine Ls (q0g rfl) ?_);refine q1a rfl (v:=.int _ _) rfl rfl (F3.grown G7 (by simp;omega)) (by simp [cndI]) ?_;intro w8 B8 hg8 hs8;(refine q0c<|tn<|q0b<|q0a<|Ls (q0g rfl)<|Ls (X_ld rfl B8 rfl)<|Ls (q0g rfl) ?_);refine q1a rfl (v:=.int _ _) rfl rfl B8 (by simp [cndI]) ?_;intro w9 B9 hg9 hs9;have hz7:=G7.size;have hz6:=G6.size;(refine q0c<|tn<|q0b<|q0a<|Ls (q2o (size:=3) rfl B9 rfl) ?_);refine q0m (size:=3) (l:=cndI (Qy.liC (c,n,n))) rfl rfl rfl q9z (((F2.grown G7 (by simp;omega)).grown hg8 (by simp;omega)).grown hg9 (by simp;omega)) rfl ?_;intro w10 B10 hg10 hs10;have hz5:=E5.size;(refine q0c<|tn<|q0r<|tr ?_);refine q1h rfl rfl (Res.cellA (cs:=cndI (Qy.liC (c,n,n))) inferInstance rfl (B10.range (fun j u h=>by rw [Nat.zero_add];exact h)) rfl .nil) ?_;refine ⟨(c,n,n),rfl,q0f (q0f (q0f (q0f G06 G7 (fun g h=>.inl h)) hg8 (fun g h=>by cases h;exact .inr (by omega))) hg9 (fun g h=>by cases h;exact .inr (by omega))) hg10 (fun g h=>by cases h;exact .inr (by omega)),?_,?_⟩
    · rw [z0d (m:=r) (r':=fun r=>Qy.bind (Qy.num 0 (Qy.cmax c) r) fun n r=>.ok ((c,n,n),r)) hr,q2y hv7,q5j];exact ((hP7.grown hg8 (by simp;omega)).grown hg9 (by simp;omega)).grown hg10 (by simp;omega)
    · exact gb (q9u (m:=r) (r':=fun r=>Qy.bind (Qy.num 0 (Qy.cmax c) r) fun n r=>.ok ((c,n,n),r)) hr (q3d hv7 (q5i _ _)))
  · have hr:∀ l,s1=.ok l→Qy.cond1 c l=(fun l=>Qy.bind (Qy.expect Qy.tIn l) fun _ r=>Qy.bind (Qy.num 0 (Qy.cmax c) r) fun lo r=>Qy.bind (Qy.expect Qy.tDots r) fun _ r=>Qy.bind (Qy.num lo (Qy.cmax c) r) fun hi r=>.ok ((c,lo,hi),r)) l:=fun l hl=>(by simp only [Qy.cond1,hno l hl]);have gu:∀ (st:PS) (x:List Nat),q4f st (Qy.expect x) ():=fun _ _ _ _ _ _ _=>rfl;(refine q0c<|tn<|q0q rfl<|q0o<|tn<|q0b<|q0a<|m_P rfl ?_);refine Ls (q5p (k:=1) (u:=Qy.tIn) rfl rfl rfl) ?_;refine L_fn (gexpect g s s1 1 Qy.tIn tokX_in (by omega) w6 hP6) rfl ?_;rintro e w7 ⟨rfl,G7,hP7⟩;refine ⟨_,rfl,?_⟩;have hw7:=hP6.tabs hw6 G7;(refine q0c<|tn<|q0b<|q0a<|m_P rfl<|m_I rfl ?_);refine L_fn (z3v g s _ 0 (Qy.cmax c) (by omega) (by omega) hs w7 hw7 hP7) rfl ?_;rintro e w8 ⟨n,rfl,hn,G8,hP8,hv8⟩;refine ⟨_,rfl,?_⟩;have H3:=(F3.grown G7 (by simp;omega)).grown G8 (by simp;omega);have H2:=(F2.grown G7 (by simp;omega)).grown G8 (by simp;omega);have hz7:=G7.size;have hz8:=G8.size;have hz6:=G6.size;have hz5:=E5.size;(refine Ls (q0g rfl) ?_);refine q1a rfl (v:=.int _ _) rfl rfl H3 (by simp [cndI]) ?_;intro w9 B9 hg9 hs9;have hP9:=hP8.grown hg9 (by simp;omega);have H2:=H2.grown hg9 (by simp;omega);have G09:=q0f (q0f (q0f G06 G7 (fun g h=>.inl h)) G8 (fun g h=>.inl h)) hg9 (fun g h=>by cases h;exact .inr (by omega));(refine q0c<|tn<|q0b<|q0a<|m_P rfl ?_);refine Ls (q5p (k:=3) (u:=Qy.tDots) rfl rfl rfl) ?_;refine L_fn (gexpect g s _ 3 Qy.tDots tokX_dots (by omega) w9 hP9) rfl ?_;rintro e w10 ⟨rfl,G10,hP10⟩;refine ⟨_,rfl,?_⟩;have G010:=q0f G09 G10 (fun g h=>.inl h);have hw10:=h.tabs hw G010;have H3:=B9.grown G10 (by simp;omega);have H2:=H2.grown G10 (by simp;omega);(refine q0c<|tn<|q0b<|q0a<|m_P rfl<|Ls (q0g rfl)<|Ls (X_ld rfl H3 rfl)<|m_I rfl ?_);refine L_fn (z3v g s _ n (Qy.cmax c) hn (by omega) hs w10 hw10 hP10) rfl ?_;rintro e w11 ⟨n2,rfl,_,G11,hP11,hv11⟩;refine ⟨_,rfl,?_⟩;have H3:=H3.grown G11 (by simp;omega);have H2:=H2.grown G11 (by simp;omega);(refine Ls (q0g rfl) ?_);refine q1a rfl (v:=.int _ _) rfl rfl H3 (by simp [cndI]) ?_;intro w12 B12 hg12 hs12;have hP12:=hP11.grown hg12 (by simp;omega);have H2:=H2.grown hg12 (by simp;omega);have hz10:=G10.size;have hz11:=G11.size;(refine q0c<|tn<|q0b<|q0a<|Ls (q2o (size:=3) rfl B12 rfl) ?_);refine q0m (size:=3) (l:=cndI (Qy.liC (c,n,n2))) rfl rfl rfl q9z H2 rfl ?_;intro w13 B13 hg13 hs13;(refine q0c<|tn<|q0r ?_);refine q1h rfl rfl (Res.cellA (cs:=cndI (Qy.liC (c,n,n2))) inferInstance rfl (B13.range (fun j u h=>by rw [Nat.zero_add];exact h)) rfl .nil) ?_;refine ⟨(c,n,n2),rfl,q0f (q0f (q0f G010 G11 (fun g h=>.inl h)) hg12 (fun g h=>by cases h;exact .inr (by omega))) hg13 (fun g h=>by cases h;exact .inr (by omega)),?_,?_⟩
    · rw [q6f hr,q2y (gu _ _),q2y hv8,q2y (gu _ _),q2y hv11,q5j];exact hP12.grown hg13 (by simp;omega)
    · exact gb (q6b hr (q3d (gu _ _) (q3d hv8 (q3d (gu _ _) (q3d hv11 (q5i _ _))))))
def Ff (k:Nat) (pre:List Qy.Cnd):List Qy.Tok→Qy.R (List Qy.Cnd):=fun m=>Qy.bind (Qy.conds (3 - k) m) fun cs r=>.ok (pre++cs,r)
theorem Ff_step {k:Nat} (hk:k < 3) (pre:List Qy.Cnd) (m:List Qy.Tok):Ff k pre m=Qy.bind (Qy.cond m) fun c r=>if k=2 then .ok (pre++[c],r) else match Qy.acc Qy.tAnd r with
    | none=>.ok (pre++[c],r)
    | some r=>Ff (k+1) (pre++[c]) r:=by
  unfold Ff;have:k=0∨k=1∨k=2:=by omega
  rcases this with rfl | rfl | rfl
  · show Qy.bind (Qy.conds 3 m) _=_;unfold Qy.conds;cases Qy.cond m with
    | error e=>rfl
    | ok p =>
      obtain ⟨c,r⟩:=p;simp only [Qy.bind];cases Qy.acc Qy.tAnd r with
      | none=>rfl
      | some r' =>
        show Qy.bind (Qy.bind (Qy.conds 2 r') _) _=Qy.bind (Qy.conds 2 r') _;cases Qy.conds 2 r' with
        | error e=>rfl
        | ok q=>obtain ⟨cs,u⟩:=q;simp [Qy.bind]
  · show Qy.bind (Qy.conds 2 m) _=_;unfold Qy.conds;cases Qy.cond m with
    | error e=>rfl
    | ok p =>
      obtain ⟨c,r⟩:=p;simp only [Qy.bind];cases Qy.acc Qy.tAnd r with
      | none=>rfl
      | some r' =>
        show Qy.bind (Qy.bind (Qy.conds 1 r') _) _=Qy.bind (Qy.conds 1 r') _;cases Qy.conds 1 r' with
        | error e=>rfl
        | ok q=>obtain ⟨cs,u⟩:=q;simp [Qy.bind]
  · show Qy.bind (Qy.conds 1 m) _=_;unfold Qy.conds;cases Qy.cond m with
    | error e=>rfl
    | ok p =>
      obtain ⟨c,r⟩:=p;simp only [Qy.bind];cases Qy.acc Qy.tAnd r <;> rfl
theorem cndsI_snoc (l:List Qy.Cnd) (c:Qy.Cnd):q6r ((l++[c]).map Qy.liC)=q6r (l.map Qy.liC)++cndI (Qy.liC c):=by
  rw [List.map_append,cndsI_app];simp [q6r]
set_option maxRecDepth 100000 in
set_option maxHeartbeats 8000000 in
theorem gfilter (g:Nat) (s:ByteArray) (st:PS) (hs:s.size≤100000) (w:World) (hw:Tabs w) (h:PSt w g s st) :
    Calls Tryz.prog 200 #[.pointer (some ⟨g,0,none⟩)] w fun e w'=>∃ (v:Value) (l:List Qy.Cnd),e=.returned v∧w.grownBy w' (some g)∧PSt w' g s (after st Qy.filt)∧q4f st Qy.filt l∧l.length≤3 ∧
      w'.ownsRow w.heap.size 257 3 v l.length (q6r (l.map Qy.liC)):=by
  refine q0l Tryz.func200 rfl Tryz.ntmps200 rfl ?_;have hg0:=h.lt;(refine q0b<|q0a<|a_S rfl<|q0c<|tn<|q0b<|q0a ?_);refine q5e (size:=3) ?_;intro q1 w1 E1 hs1 o1;have hP1:=h.ext E1;(refine Ls (q0e (v:=q1) rfl)<|q0c<|tn<|q0b<|q0a<|m_P rfl ?_);refine Ls (q1u (fi:=[.tmp 7]) (ca:=[]) rfl rfl) ?_;(refine Ls (q0e (v:=.func _ _ _) rfl)<|q0c<|tn<|q0b<|q0b<|q0a<|Ls (q0d (v:=.func _ _ _) rfl) ?_);refine Ls (q5p (k:=1) (u:=Qy.tWhere) rfl rfl rfl) ?_;refine q6k (vl:=[.agg (tkC 1 Qy.tWhere).toArray]) rfl (z0u g s st 1 Qy.tWhere tokX_where (by omega) w1 hP1) rfl ?_;rintro e w2 ⟨b,rfl,G2,hb⟩;refine ⟨_,rfl,?_⟩;have G02:=q0f (E1.row (some g)) G2 (fun g h=>.inl h);have o2:=q4j o1 G2 (fun g' h=>by cases h;exact hg0);have h0:∃ σ,PSt w2 g s σ∧(b=true→after st Qy.filt=after σ (Ff 0 [])∧∀ v,q4f σ (Ff 0 []) v→q4f st Qy.filt v)∧(b=false→after st Qy.filt=σ∧q4f st Qy.filt []):=by
    have hF:∀ r,Ff 0 [] r=Qy.conds 3 r:=fun r=>by
      unfold Ff;show Qy.bind (Qy.conds 3 r) _=_;cases Qy.conds 3 r with
      | error e=>rfl
      | ok p=>obtain ⟨a,b⟩:=p;rfl
    rcases hb with ⟨rfl,l,r,rfl,ha,hP⟩ | ⟨rfl,hP,hno⟩
    · have hr:Qy.filt l=Ff 0 [] r:=(by rw [hF];unfold Qy.filt;rw [ha]);exact ⟨_,hP,fun _=>⟨z0d hr,fun v hv=>q9u hr hv⟩,fun h=>by cases h⟩
    · have hr:∀ l,st=.ok l→Qy.filt l=(fun l=>.ok ([],l)) l:=fun l hl=>(by unfold Qy.filt;rw [hno l hl]);exact ⟨_,hP,fun h=>(by cases h),fun _=>⟨by rw [q6f hr,q5j],q6b hr (q5i _ _)⟩⟩
  clear hb;obtain ⟨σ0,hP2,hT,hFa⟩:=h0;(refine a_B rfl<|q0c<|tn<|q0j ?_);refine q1k (fun z f w'=>∃ (k:Nat) (pre:List Qy.Cnd) (more:Bool) (σ:PS) (v:Value),z=(if more then 1 else 0)+(3 - k)∧k=pre.length∧k≤3∧(more=true→k < 3)∧w.grownBy w' (some g)∧PSt w' g s σ∧w'.ownsRow w.heap.size 257 3 v pre.length (q6r (pre.map Qy.liC)) ∧
    (more=true→after st Qy.filt=after σ (Ff k pre)∧∀ v,q4f σ (Ff k pre) v→q4f st Qy.filt v)∧(more=false→after st Qy.filt=σ∧q4f st Qy.filt pre) ∧
    f 0=.pointer (some ⟨g,0,none⟩)∧f 3=v∧f 4=.func (.func 197) #[.pointer (some ⟨g,0,none⟩)] #[]∧f 5=.bool more) ((if b then 1 else 0)+3) ?_ ?_
  · exact ⟨0,[],b,σ0,q1,by cases b <;> rfl,rfl,by omega,fun _=>by omega,G02,hP2,o2,hT,hFa,rfl,rfl,rfl,rfl⟩
  · clear hT hFa o1 o2 hP1 hP2 G02 G2 E1;rintro z f w3 ⟨k,pre,more,σ,v,rfl,hkl,hk3,hmk,G3,hP3,o3,hT,hFa,f0,f3,f4,f5⟩;rw [fold f0,fold f3,fold f4,fold f5];cases more with
    | false =>
      obtain ⟨ha,hg⟩:=hFa rfl;(refine q0b<|q0b<|q0a<|m_B rfl<|q0c<|tn<|q0q rfl<|q1b<|te<|te<|bx<|tn<|q0b<|q0a<|Ls (q0d (v:=v) rfl)<|Ls (q0e (v:=v) rfl)<|q0c<|tn<|q0r ?_);refine q0i rfl rfl (v:=v) rfl ⟨v,pre,rfl,G3,by rw [ha];exact hP3,hg,by omega,o3⟩
    | true =>
      obtain ⟨ha,hg⟩:=hT rfl;have hk:=hmk rfl;have hw3:=h.tabs hw G3;(refine q0b<|q0b<|q0a<|m_B rfl<|q0c<|tn<|q0v rfl<|q0o<|tn<|q0b<|q0j<|q0a<|Ls (q0d (v:=v) rfl)<|m_P rfl ?_);refine L_fn (gcond g s σ hs w3 hw3 hP3) rfl ?_;rintro e w4 ⟨c,rfl,G4,hP4,hv4⟩;refine ⟨_,rfl,?_⟩;have hz3:=G3.size;have hz4:=G4.size;have o4:=q4j o3 G4 (fun g' h=>by cases h;exact hg0);have hP4g:=hP4.lt;refine L_lits (zs':=[cndI (Qy.liC c)]) (cs:=cndI (Qy.liC c)) (Parts.cons (c:=cndI (Qy.liC c)) (z:=[.int .i64 0,.int .i64 0,.int .i64 0]) rfl rfl rfl rfl (Parts.nil _)) rfl (by simp) rfl rfl ?_;intro q5 w5 r5 E5 hs5 _ _;refine q1c (v:=v) (u:=q5) rfl rfl (q1p o4 E5) r5 q9z (by omega) (by omega) (by omega) ?_;intro v6 w6 o6 hg6 _;have hvb:∀ g',v.ownBlock=some g'→w.heap.size≤g':=fun g' h=>(o3.lt g' h).1;have hP6:=(hP4.ext E5).grown hg6 (fun e=>by have:=hvb g e;omega);have G6:w.grownBy w6 (some g):=q0f (q0f (q0f G3 G4 (fun g h=>.inl h)) E5 (fun _ h=>by cases h)) hg6 (fun g' h=>.inr (hvb g' h));have hlen:(pre++[c]).length=pre.length+1:=(by simp);rw [← cndsI_snoc,← hlen] at o6;have hst:∀ l,σ=.ok l→Ff k pre l=(fun l=>Qy.bind (Qy.cond l) fun c r=>if k=2 then .ok (pre++[c],r) else match Qy.acc Qy.tAnd r with
        | none=>.ok (pre++[c],r)
        | some r=>Ff (k+1) (pre++[c]) r) l:=fun l _=>Ff_step hk pre l
      rw [q6f hst,q2y hv4] at ha;have hg':∀ v,q4f (after σ Qy.cond) (fun r=>if k=2 then .ok (pre++[c],r) else match Qy.acc Qy.tAnd r with
        | none=>.ok (pre++[c],r)
        | some r=>Ff (k+1) (pre++[c]) r) v→q4f st Qy.filt v:=fun v hv=>hg v (q6b hst (q3d hv4 hv))
      generalize after σ Qy.cond=σ4 at *;clear hg hst hv4 hP3 hP4 o3 o4 r5;obtain ⟨_,A6,c6,rfl,_⟩:=Row.of_own o6;by_cases hk2:k=2
      · have hr:∀ l,σ4=.ok l→(if k=2 then Except.ok (pre++[c],l) else match Qy.acc Qy.tAnd l with
          | none=>.ok (pre++[c],l)
          | some r=>Ff (k+1) (pre++[c]) r:Qy.R (List Qy.Cnd))=(fun l=>.ok (pre++[c],l)) l:=fun l _=>if_pos hk2
        rw [q6f hr,q5j] at ha;(refine a_S rfl<|q0c<|bn<|tn<|q0a<|m_S rfl<|Ls (q0h rfl)<|Ls (q3e rfl rfl (by omega))<|m_B rfl<|Lo2 rfl rfl rfl rfl<|Lo2 rfl rfl rfl rfl<|Lo2 rfl rfl rfl rfl<|Ls (q0p (v:=.bool _) rfl rfl)<|a_B rfl<|q0c<|tn ?_);exact ⟨_,by simp;omega,k+1,pre++[c],false,σ4,_,rfl,by simp;omega,by omega,fun h=>(by cases h),G6,hP6,o6,fun h=>(by cases h),fun _=>⟨ha,hg' _ (q6b hr (q5i _ _))⟩,rfl,rfl,rfl,rfl⟩
      · (refine a_S rfl<|q0c<|bn<|tn<|q0a<|m_S rfl<|Ls (q0h rfl)<|Ls (q2p rfl rfl (by omega))<|m_B rfl<|Lg2 rfl rfl rfl (q0d (v:=.func _ _ _) rfl) ?_);refine q2h rfl rfl rfl ?_;refine Ls (q5p (k:=1) (u:=Qy.tAnd) rfl rfl rfl) ?_;refine q2h rfl rfl rfl ?_;refine q6k (vl:=[.agg (tkC 1 Qy.tAnd).toArray]) rfl (z0u g s σ4 1 Qy.tAnd tokX_and (by omega) w6 hP6) rfl ?_;rintro e w7 ⟨b,rfl,G7,hb⟩;refine ⟨_,rfl,?_⟩;have G07:=q0f G6 G7 (fun g h=>.inl h);have o7:=q4j o6 G7 (fun g' h=>by cases h;exact hg0);rcases hb with ⟨rfl,l,r,rfl,hac,hP7⟩ | ⟨rfl,hP7,hno⟩
        · have hr:(if k=2 then Except.ok (pre++[c],l) else match Qy.acc Qy.tAnd l with
            | none=>.ok (pre++[c],l)
            | some r=>Ff (k+1) (pre++[c]) r:Qy.R (List Qy.Cnd))=Ff (k+1) (pre++[c]) r:=by rw [if_neg hk2,hac]
          (refine Ls (q0k (v:=.bool _) rfl rfl)<|a_B rfl<|q0c<|tn ?_);refine ⟨_,by simp;omega,k+1,pre++[c],true,.ok r,_,rfl,by simp;omega,by omega,fun _=>by omega,G07,hP7,o7,fun _=>⟨ha.trans (z0d hr),fun v hv=>hg' v (q9u hr hv)⟩,fun h=>(by cases h),rfl,rfl,rfl,rfl⟩
        · have hr:∀ l,σ4=.ok l→(if k=2 then Except.ok (pre++[c],l) else match Qy.acc Qy.tAnd l with
            | none=>.ok (pre++[c],l)
            | some r=>Ff (k+1) (pre++[c]) r:Qy.R (List Qy.Cnd))=(fun l=>.ok (pre++[c],l)) l:=fun l hl=>by rw [if_neg hk2,hno l hl]
          rw [q6f hr,q5j] at ha;(refine Ls (q0k (v:=.bool _) rfl rfl)<|a_B rfl<|q0c<|tn ?_);exact ⟨_,by simp;omega,k+1,pre++[c],false,σ4,_,rfl,by simp;omega,by omega,fun h=>(by cases h),G07,hP7,o7,fun h=>(by cases h),fun _=>⟨ha,hg' _ (q6b hr (q5i _ _))⟩,rfl,rfl,rfl,rfl⟩
theorem keyword_len' (k:Nat):(Qy.keyword k).length≤1000:=by have:=Qy.keyword_len k;omega
theorem tokX_kw {k:Nat} (h1:1≤k) (h7:k≤7):TokX 1 (Qy.keyword k):=q6u (Qy.keyword_ne h1 h7) (Qy.keyword_lo k) (keyword_len' k)
theorem q7t.grown {w0 w w':World} {v:Value} {g:Nat} (h:q7t w0 v w) (hG:w.grownBy w' (some g)) (hg:g < w0.heap.size):q7t w0 v w':=by
  obtain ⟨b,h1,h2,h3⟩:=h;exact ⟨b,h1,h2,h3.kept hG (fun e=>by injection e with e;omega)⟩
theorem q7t.ext {w0 w w':World} {v:Value} (h:q7t w0 v w) (E:Ext w w'):q7t w0 v w':=by
  obtain ⟨b,h1,h2,h3⟩:=h;exact ⟨b,h1,h2,h3.ext E⟩
theorem own_empty (w:World) (base:Nat) (e:TypeId) (size:Nat):w.ownsRow base e size (.slice none 0 0) 0 []:=⟨by simp,.inl ⟨rfl,rfl⟩⟩
theorem X_mkQ {n:NN} {f:Fr} {w:World} {d:Option Tmp} {t:TypeId} {pos:String} {af:Array Edge} {g:Option (Nat × Bool)} {x:Operand} {k:Int} (hx:ev n f x=.int .i64 k) :
    X Tryz.prog n ⟨d,.build 161 #[(0,x)],t,pos,af,g⟩ f w=.ok (.value (.agg (qC k 0 0 (.slice none 0 0)).toArray)) w:=by
  have:=q1x (P:=Tryz.prog) (ty:=161) (n:=n) (f:=f) (w:=w) (d:=d) (t:=t) (pos:=pos) (af:=af) (g:=g) (Parts.cons (i:=0) (z:=[.int .i64 0]) hx rfl rfl rfl (Parts.nil _));simpa [qC] using this
theorem X_mkQ0 {n:NN} {f:Fr} {w:World} {d:Option Tmp} {t:TypeId} {pos:String} {af:Array Edge} {g:Option (Nat × Bool)} :
    X Tryz.prog n ⟨d,.build 161 #[],t,pos,af,g⟩ f w=.ok (.value (.agg (qC 0 0 0 (.slice none 0 0)).toArray)) w:=by
  have:=q1x (P:=Tryz.prog) (ty:=161) (n:=n) (f:=f) (w:=w) (d:=d) (t:=t) (pos:=pos) (af:=af) (g:=g) (Parts.nil _);simpa [qC] using this
def S1 (k:Nat):List Qy.Tok→Qy.R Nat:=fun l=>bif Qy.hasCol k then Qy.col l else .ok (0,l)
def S2 (k:Nat):List Qy.Tok→Qy.R Nat:=fun l=>bif Nat.ble 1 (Qy.maxK k) then Qy.num 1 (Qy.maxK k) l else .ok (0,l)
theorem body_eq (k:Nat):Qy.body k=fun l=>Qy.bind (S1 k l) fun c r=>Qy.bind (S2 k r) fun n r=>Qy.bind (Qy.fils k r) fun fs r=>.ok (⟨k,c,n,fs⟩,r):=rfl
theorem z2w (st:PS) (x:List Nat):q4f st (Qy.expect x) ():=fun _ _ _ _ _=>rfl
theorem fils1 {k:Nat} (hk:k ≠ 7):Qy.fils k=fun l=>Qy.bind (Qy.filt l) fun a r=>.ok ([a],r):=by
  funext l;unfold Qy.fils;have:(k == 7)=false:=by simp [hk]
  simp only [this,cond_false]
theorem fils7:Qy.fils 7=fun l=>Qy.bind (Qy.filt l) fun a r=>Qy.bind (Qy.expect Qy.tWith r) fun _ r=>Qy.bind (Qy.filt r) fun b r=>.ok ([a,b],r):=rfl
theorem q6v {w:World} {base size m:Nat} {e:TypeId} {v:Value} {xs:List Value} (h:w.ownsRow base e size v m xs):v.oneCell'=true:=by
  obtain ⟨_,_,_,rfl,_⟩:=Row.of_own h;rfl
def filC (l:List (List Qy.Cnd)):List (List Qy.CndI):=l.map fun l=>l.map Qy.liC
def qry (q:Qy.Q) (v:Value):List Value:=qC (q.kind:Nat) (q.col:Nat) (q.k:Nat) v
set_option maxRecDepth 100000 in
set_option maxHeartbeats 16000000 in
theorem gquery (g:Nat) (s:ByteArray) (st:PS) (hs:s.size≤100000) (w:World) (hw:Tabs w) (h:PSt w g s st) :
    Calls Tryz.prog 137 #[.pointer (some ⟨g,0,none⟩)] w fun e w'=>∃ (v:Value) (q:Qy.Q),e=.returned (.agg (qry q v).toArray)∧w.grownBy w' (some g)∧PSt w' g s (after st Qy.query)∧q4f st Qy.query q ∧
      q7v w' w.heap.size w'.heap.size v (filC q.fs):=by
  refine q0l Tryz.func137 rfl Tryz.ntmps137 rfl ?_;have hg0:=h.lt;(refine q0b<|q0a ?_);refine q0z ?_;intro g2 w1 B2 hg2 E1 hs1;(refine q0c<|tn<|q0b<|q0a ?_);refine L_fo rfl (gforms w1) ?_;rintro u w2 ⟨E2,b,rfl,hb,M2⟩;have hF2:q7t w1 (.map (some b)) w2:=⟨b,rfl,hb,M2⟩;have hz2:=E2.size;(refine Ls (q0e (v:=.map _) rfl)<|q0c<|tn<|q0b<|q0b<|q0a<|a_I rfl<|q0c<|tn<|q0j ?_);refine q1k (fun z f w'=>∃ k,z=8 - k∧1≤k∧k≤8∧w.grownBy w' (some g)∧PSt w' g s st∧(∀ l,st=.ok l→Qy.query l=Qy.queryF (8 - k) k l)∧q7t w1 (.map (some b)) w'∧Blk w' g2 161 (qC 0 0 0 (.slice none 0 0)) ∧
    f 0=.pointer (some ⟨g,0,none⟩)∧f 2=.pointer (some ⟨g2,0,none⟩)∧f 3=.map (some b)∧f 4=.int .i64 (k:Nat)) 7 ?_ ?_
  · exact ⟨1,rfl,by omega,by omega,(E1.trans E2).row _,h.ext (E1.trans E2),fun _ _=>rfl,hF2,B2.ext E2,rfl,rfl,rfl,rfl⟩
  · clear hF2 M2 B2;rintro z f w3 ⟨k,rfl,h1,h8,G3,P3,hq,F3,C2,f0,f2,f3,f4⟩;rw [fold f0,fold f2,fold f3,fold f4];by_cases h7:k≤7
    · have hfm:(q5n (k:Int)).getD (.agg formZ.toArray)=.agg (q5f k).toArray:=(by rw [z2x h1 h7];rfl);have hcm:Qy.maxK k≤65536:=Qy.maxK_le k;(refine q0b<|q0b<|q0a<|m_I rfl<|Ls (X_leqT rfl rfl (by omega))<|q0c<|tn<|q0v rfl<|q0o<|tn<|q0b<|q0j<|q0b<|q0a<|Ls (q0d (v:=.map _) rfl)<|m_I rfl ?_);refine Ls (form_look1 F3 rfl rfl (z2o (by omega)) hfm) ?_;refine q0z ?_;intro g5 w4 B5 hg5 E4 hs4;refine q0m (size:=4) (l:=q5f k) rfl rfl rfl (z2y k) B5 rfl ?_;intro w5 C5 hg5' hs5;have hz3:=G3.size;have G5:w.grownBy w5 (some g):=q0f (q0f G3 E4 (fun _ h=>by cases h)) hg5' (fun g h=>by cases h;exact .inr (by omega));have P5:=(P3.ext E4).grown hg5' (by simp;omega);have D2:=(C2.ext E4).grown hg5' (by simp;have:=C2.lt;omega);have hlt2:=C2.lt;have F5:q7t w1 (.map (some b)) w5:=by
        obtain ⟨b',e1,e2,e3⟩:=F3.ext E4;have hl3:b' < w3.heap.size:=(by obtain ⟨b3,e4,_,e5⟩:=F3;cases e1;cases e4;exact e5.lt);exact ⟨b',e1,e2,e3.kept hg5' (fun e=>by injection e with e;omega)⟩
      (refine q0c<|tn<|q0b<|q0b<|q0a<|m_P rfl<|Ls (q0g rfl)<|Ls (X_ld rfl C5 rfl) ?_);refine Ls (q5p (k:=1) (u:=Qy.keyword k) rfl rfl rfl) ?_;refine L_fn (z0u g s st 1 (Qy.keyword k) (tokX_kw h1 h7) (by omega) w5 P5) rfl ?_;rintro e w6 ⟨b1,rfl,G6,hb1⟩;refine ⟨_,rfl,?_⟩;have G06:=q0f G5 G6 (fun g h=>.inl h);have E2':=D2.grown G6 (by simp;omega);have E5:=C5.grown G6 (by simp;omega);have hz6:=G6.size;rcases hb1 with ⟨rfl,l,r,rfl,ha,P6⟩ | ⟨rfl,P6,hno⟩
      · have hql:Qy.query l=Qy.body k r:=by
          rw [hq l rfl,show 8 - k=(7 - k)+1 by omega];simp only [Qy.queryF,ha]
        (refine Ls (q2d rfl)<|q0c<|tn<|q0q rfl<|q0o<|tn<|q0b<|q0a<|m_I rfl ?_);refine Ls (X_mkQ rfl) ?_;refine q0z ?_;intro g6 w7 B6 hg6 E7 hs7;refine q0m (size:=4) (l:=qC (k:Nat) 0 0 (.slice none 0 0)) rfl rfl rfl (q5o rfl) B6 rfl ?_;intro w8 C6 hg6' hs8;have G8:w.grownBy w8 (some g):=q0f (q0f G06 E7 (fun _ h=>by cases h)) hg6' (fun g h=>by cases h;exact .inr (by omega));have P8:=(P6.ext E7).grown hg6' (by simp;omega);have H2:=(E2'.ext E7).grown hg6' (by simp;omega);have H5:=(E5.ext E7).grown hg6' (by simp;omega);have hw8:=h.tabs hw G8;have hlt2:=H2.lt;(refine q0c<|tn<|q0b<|q0b<|q0a<|Ls (q0g rfl)<|Ls (X_ld rfl H5 rfl)<|q0c<|tn ?_);refine z1f (Q:=fun e f w'=>e=.normal∧∃ (c:Nat) (σ:PS),w.grownBy w' (some g)∧PSt w' g s σ∧after (.ok r) (S1 k)=σ∧q4f (.ok r) (S1 k) c∧Blk w' g6 161 (qC (k:Nat) (c:Nat) 0 (.slice none 0 0))∧Blk w' g2 161 (qC 0 0 0 (.slice none 0 0))∧Blk w' g5 249 (q5f k)∧w8.heap.size≤w'.heap.size ∧
          f 0=.pointer (some ⟨g,0,none⟩)∧f 2=.pointer (some ⟨g2,0,none⟩)∧f 5=.pointer (some ⟨g5,0,none⟩)∧f 6=.pointer (some ⟨g6,0,none⟩)) ?_ ?_
        · cases hh:Qy.hasCol k
          · have e1:S1 k=fun l=>.ok (0,l):=(by funext l;unfold S1;rw [hh];rfl);(refine q0q rfl<|q0o ?_);exact ⟨rfl,0,.ok r,G8,P8,by rw [e1];rfl,by rw [e1];exact q5i _ _,C6,H2,H5,Nat.le_refl _,rfl,rfl,rfl,rfl⟩
          · have e1:S1 k=Qy.col:=(by funext l;unfold S1;rw [hh];rfl);(refine q0v rfl<|q0a<|m_P rfl ?_);refine L_fn (gcolumn g s (.ok r) hs w8 P8) rfl ?_;rintro e w9 ⟨c,rfl,_,G9,P9,v9⟩;refine ⟨_,rfl,?_⟩;have hz9:=G9.size;(refine Ls (q0g rfl) ?_);refine q1a rfl (v:=.int _ _) rfl rfl (C6.grown G9 (by simp;omega)) (by simp [qC]) ?_;intro w10 B10 hg10 hs10;(refine q0c ?_);exact ⟨rfl,c,_,q0f (q0f G8 G9 (fun g h=>.inl h)) hg10 (fun g h=>by cases h;exact .inr (by omega)),P9.grown hg10 (by simp;omega),by rw [e1],by rw [e1];exact v9,B10,(H2.grown G9 (by simp;omega)).grown hg10 (by simp;omega),(H5.grown G9 (by simp;omega)).grown hg10 (by simp;omega),by omega,rfl,rfl,rfl,rfl⟩
        clear C6 H2 H5 P8 G8 hw8;rintro e f w9 ⟨rfl,c,σ1,G9,P9,a1,v1,C9,H2,H5,hz9,f0,f2,f5,f6⟩;rw [fold f0,fold f2,fold f5,fold f6];have hw9:=h.tabs hw G9;(refine tn<|q0b<|q0b<|q0a<|Ls (q0g rfl)<|Ls (X_ld rfl H5 rfl)<|Ls (q5s rfl rfl)<|q0c<|tn ?_);refine z1f (Q:=fun e f w'=>e=.normal∧∃ (n:Nat) (σ:PS),w.grownBy w' (some g)∧PSt w' g s σ∧after σ1 (S2 k)=σ∧q4f σ1 (S2 k) n∧Blk w' g6 161 (qC (k:Nat) (c:Nat) (n:Nat) (.slice none 0 0))∧Blk w' g2 161 (qC 0 0 0 (.slice none 0 0))∧Blk w' g5 249 (q5f k)∧w8.heap.size≤w'.heap.size ∧
          f 0=.pointer (some ⟨g,0,none⟩)∧f 2=.pointer (some ⟨g2,0,none⟩)∧f 5=.pointer (some ⟨g5,0,none⟩)∧f 6=.pointer (some ⟨g6,0,none⟩)) ?_ ?_
        · by_cases hh:0 < Qy.maxK k
          · have e1:S2 k=Qy.num 1 (Qy.maxK k):=(by funext l;unfold S2;rw [Nat.ble_eq_true_of_le hh];rfl);refine q1d rfl (fun _=>?_) (fun hn=>(hn (by omega)).elim);(refine q0a<|m_P rfl<|Ls (q0g rfl)<|Ls (X_ld rfl H5 rfl) ?_);refine L_fn (z3v g s σ1 1 (Qy.maxK k) (by omega) hcm hs w9 hw9 P9) rfl ?_;rintro e w10 ⟨n,rfl,_,G10,P10,v10⟩;refine ⟨_,rfl,?_⟩;have hz10:=G10.size;(refine Ls (q0g rfl) ?_);refine q1a rfl (v:=.int _ _) rfl rfl (C9.grown G10 (by simp;omega)) (by simp [qC]) ?_;intro w11 B11 hg11 hs11;(refine q0c ?_);exact ⟨rfl,n,_,q0f (q0f G9 G10 (fun g h=>.inl h)) hg11 (fun g h=>by cases h;exact .inr (by omega)),P10.grown hg11 (by simp;omega),by rw [e1],by rw [e1];exact v10,B11,(H2.grown G10 (by simp;omega)).grown hg11 (by simp;omega),(H5.grown G10 (by simp;omega)).grown hg11 (by simp;omega),by omega,rfl,rfl,rfl,rfl⟩
          · have hb0:Nat.ble 1 (Qy.maxK k)=false:=by
              cases hb:Nat.ble 1 (Qy.maxK k)
              · rfl
              · exact (hh (Nat.le_of_ble_eq_true hb)).elim
            have e1:S2 k=fun l=>.ok (0,l):=(by funext l;unfold S2;rw [hb0];rfl);refine q1d rfl (fun hn=>(hh (by omega)).elim) (fun _=>?_);(refine q0o ?_);exact ⟨rfl,0,σ1,G9,P9,by rw [e1];exact q5j _ _,by rw [e1];exact q5i _ _,C9,H2,H5,hz9,rfl,rfl,rfl,rfl⟩
        clear C9 H2 H5 P9 G9 hw9 f0 f2 f5 f6 hz9;rintro e f w10 ⟨rfl,n,σ2,G10,P10,a2,v2,C10,H2,H5,hz10,f0,f2,f5,f6⟩;rw [fold f0,fold f2,fold f5,fold f6];have hw10:=h.tabs hw G10;(refine tn<|q0b ?_);apply W_dagG 3 g (fun w'=>PSt w' g s (σ2)) 5 (by kernel_rfl) (P10.ext (Ext.drew _)) (fun _ _ E h=>h.ext E);(apply DW_x (fun r w hA hH=>(q0g rfl).trans rfl);apply DW_x (fun r w hA hH=>(X_ld rfl (C10.grown hA.g (by simp;omega)) rfl).trans rfl);apply DW_x (fun r w hA hH=>(q0d (v:=.pointer _) rfl).trans rfl));((with_reducible apply DW_fr (F:=fun v w'=>∃ l:List Qy.Cnd,w'.ownsRow w10.heap.size 257 3 v l.length (q6r (l.map Qy.liC))∧PSt w' g s (after (σ2) Qy.filt)∧q4f (σ2) Qy.filt l∧l.length≤3));(exact fun _=>rfl);(exact fun r w hA hH=>(gfilter g s _ hs w (P10.tabs hw10 hA.g) (hA.pre (.inl rfl))).mono fun e w' ⟨v,l,he,hG,hP,hv,hl,ho⟩=>⟨v,he,.inr ⟨rfl,hG⟩,l,q6n ho hA.g.size,hP,hv,hl⟩);(exact fun i u w w' hi ht hR h=>(by obtain ⟨l,h1,h2,h3⟩:=h;exact ⟨l,q1p h1 (hR.other hi),h2.ext (hR.other hi),h3⟩)))
        apply DW_d (F:=fun r u w=>RowF w10 1 u 1 [r 3] w) (fun r w hA hH=>by
          obtain ⟨l,h1,_⟩:=hH 3 rfl
          exact ⟨_,_,z3c rfl (q6v h1),q1m _ _,RowF.lit w _ [r 3] hA.g.size 1 rfl (by decide)⟩) (fun i r u w w' hi ht hR h=>hR.elim (fun E=>RowF.ext E h) (fun ⟨e,_⟩=>by subst e;exact Bool.noConfusion (ht:true=false))) (fun _ _=>rfl)
        ((with_reducible exact q2e);(exact rfl);(repeat (first | exact .inr (.inr (fun _ _=>by with_reducible rfl)) | (refine And.intro ?_ ?_) | exact .inr (.inl rfl) | exact .inl (by decide +kernel) | exact trivial | exact .inr (.inr (fun _ _=>rfl))));(try dsimp only [Nat.reduceAdd]));intro r3 w11 G11 H3;obtain ⟨l1,o1,P11,vl1,hl1⟩:=H3 3;obtain ⟨lo4,hi4,hlo4,r4⟩:RowF w10 1 (r3 4) 1 [r3 3] w11:=H3 4;have hc1:=q6v o1;have R1:Row w11 w10.heap.size w11.heap.size 3 (r3 3) l1.length (q6r (l1.map Qy.liC)):=Row.of_own o1;generalize r3 3=u1 at *;generalize r3 4=q4 at *;clear H3 o1;have hz11:=G11.size;have G011:=q0f G10 G11 (fun g h=>.inl h);refine q1c (v:=.slice none 0 0) (u:=q4) rfl rfl (own_empty w11 w11.heap.size _ 1) r4 (by simpa using hc1) (by omega) (by omega) (Nat.le_refl _) ?_;intro v12 w12 o12 hg12 _;have E12:Ext w11 w12:=hg12;have hz12:=E12.size;have C12:=(C10.grown G11 (by simp;omega)).ext E12;have hl6:=C12.lt;have hlt6:g6 < w10.heap.size:=C10.lt;have hvc:=q6v o12;(refine Ls (q0g rfl) ?_);refine q1a rfl (v:=v12) rfl hvc C12 (by simp [qC]) ?_;intro w13 B13 hg13 hs13;have G13:w.grownBy w13 (some g):=q0f (q0f G011 E12 (fun _ h=>by cases h)) hg13 (fun g h=>by cases h;exact .inr (by omega));have P13:=(P11.ext E12).grown hg13 (by simp;omega);have H2:=((H2.grown G11 (by simp;omega)).ext E12).grown hg13 (by simp;omega);have H5:=((H5.grown G11 (by simp;omega)).ext E12).grown hg13 (by simp;omega);have R13:=(R1.ext E12).grown hg13 (fun g' h=>by cases h;exact .inl hlt6);have o13:=q4j o12 hg13 (fun g' h=>by cases h;omega);have hql':after (.ok l) Qy.query=after (.ok r) (Qy.body k):=z0d hql;have hqv:∀ q,q4f (.ok r) (Qy.body k) q→q4f (.ok l) Qy.query q:=fun q hq=>q9u hql hq;rw [hql',body_eq,q2y v1,a1,q2y v2,a2]
        have hqv':∀ fs,q4f σ2 (Qy.fils k) fs→q4f (.ok l) Qy.query ⟨k,c,n,fs⟩:=fun fs hf=>hqv _ (by
          rw [body_eq]
          exact q3d v1 (by rw [a1];exact q3d v2 (by rw [a2];exact q3d hf (q5i _ _))))
        (refine q0c<|tn<|q0b<|q0b<|q0a<|Ls (q0g rfl)<|Ls (X_ld rfl H5 rfl)<|Ls (q7c rfl rfl)<|q0c<|tn ?_);refine q1d rfl (fun hk7=>?_) (fun hk7=>?_)
        · obtain rfl:k=7:=by
            apply Classical.byContradiction;intro hne;have:Qy.nfil k=1:=by
              unfold Qy.nfil;have e:(k == 7)=false:=(by simp [hne]);rw [e];rfl
            omega
          have hw13:=h.tabs hw G13;(refine q0b<|q0a<|m_P rfl ?_);refine Ls (q5p (k:=1) (u:=Qy.tWith) rfl rfl rfl) ?_;refine L_fn (gexpect g s _ 1 Qy.tWith tokX_with (by omega) w13 P13) rfl ?_;rintro e w14 ⟨rfl,G14,P14⟩;refine ⟨_,rfl,?_⟩;have G014:=q0f G13 G14 (fun g h=>.inl h);have hw14:=h.tabs hw G014;have hz14:=G14.size;have C14:=B13.grown G14 (by simp;omega);have H2:=H2.grown G14 (by simp;omega);have R14:=R13.grown G14 (fun g' h=>by cases h;exact .inl (by omega));have o14:=q4j o13 G14 (fun g' h=>by cases h;omega);(refine q0c<|tn ?_);apply W_dagG 3 g (fun w'=>PSt w' g s (after (after σ2 Qy.filt) (Qy.expect Qy.tWith))) 5 (by kernel_rfl) (P14.ext (Ext.drew _)) (fun _ _ E h=>h.ext E);(apply DW_x (fun r w hA hH=>(q0g rfl).trans rfl);apply DW_x (fun r w hA hH=>(X_ld (v:=v12) rfl (C14.grown hA.g (by simp;omega)) rfl).trans rfl);apply DW_x (fun r w hA hH=>(q0d (v:=.pointer _) rfl).trans rfl));((with_reducible apply DW_fr (F:=fun v w'=>∃ l:List Qy.Cnd,w'.ownsRow w14.heap.size 257 3 v l.length (q6r (l.map Qy.liC))∧PSt w' g s (after (after (after σ2 Qy.filt) (Qy.expect Qy.tWith)) Qy.filt)∧q4f (after (after σ2 Qy.filt) (Qy.expect Qy.tWith)) Qy.filt l∧l.length≤3));(exact fun _=>rfl);(exact fun r w hA hH=>(gfilter g s _ hs w (P14.tabs hw14 hA.g) (hA.pre (.inl rfl))).mono fun e w' ⟨v,l,he,hG,hP,hv,hl,ho⟩=>⟨v,he,.inr ⟨rfl,hG⟩,l,q6n ho hA.g.size,hP,hv,hl⟩);(exact fun i u w w' hi ht hR h=>(by obtain ⟨l,h1,h2,h3⟩:=h;exact ⟨l,q1p h1 (hR.other hi),h2.ext (hR.other hi),h3⟩)))
          apply DW_d (F:=fun r u w=>RowF w14 1 u 1 [r 3] w) (fun r w hA hH=>by
            obtain ⟨l,h1,_⟩:=hH 3 rfl
            exact ⟨_,_,z3c rfl (q6v h1),q1m _ _,RowF.lit w _ [r 3] hA.g.size 1 rfl (by decide)⟩) (fun i r u w w' hi ht hR h=>hR.elim (fun E=>RowF.ext E h) (fun ⟨e,_⟩=>by subst e;exact Bool.noConfusion (ht:true=false))) (fun _ _=>rfl)
          ((with_reducible exact q2e);(exact rfl);(repeat (first | exact .inr (.inr (fun _ _=>by with_reducible rfl)) | (refine And.intro ?_ ?_) | exact .inr (.inl rfl) | exact .inl (by decide +kernel) | exact trivial | exact .inr (.inr (fun _ _=>rfl))));(try dsimp only [Nat.reduceAdd]));intro r5 w15 G15 H5';obtain ⟨l2,o2,P15,vl2,hl2⟩:=H5' 3;obtain ⟨lo6,hi6,hlo6,r6⟩:RowF w14 1 (r5 4) 1 [r5 3] w15:=H5' 4;have hc2:=q6v o2;have S15:Row w15 w14.heap.size w15.heap.size 3 (r5 3) l2.length (q6r (l2.map Qy.liC)):=Row.of_own o2;generalize r5 3=u2 at *;generalize r5 4=q6 at *;clear H5' o2;have hz15:=G15.size;have G015:=q0f G014 G15 (fun g h=>.inl h);have R15:=R14.grown G15 (fun g' h=>by cases h;exact .inl (by omega));have o15:=q4j o14 G15 (fun g' h=>by cases h;omega);have hvl:∀ g',v12.ownBlock=some g'→w11.heap.size≤g'∧g' < w13.heap.size:=fun g' hg=>⟨(o13.lt g' hg).1,own_row_lt o13 g' hg⟩;refine q1c (v:=v12) (u:=q6) rfl rfl o15 r6 (by simpa using hc2) (by omega) (by omega) (by omega) ?_;intro v16 w16 o16 hg16 _;have hz16:=hg16.size;have R16:=R15.grown hg16 (fun g' h=>.inr (by have:=hvl g' h;omega));have S16:=S15.grown hg16 (fun g' h=>.inl (by have:=hvl g' h;omega));have hne6:∀ g',v12.ownBlock=some g'→g' ≠ g6:=fun g' h=>(by have:=hvl g' h;omega);have hne2:∀ g',v12.ownBlock=some g'→g' ≠ g2:=fun g' h=>(by have:=hvl g' h;omega);have hneg:∀ g',v12.ownBlock=some g'→g' ≠ g:=fun g' h=>(by have:=hvl g' h;omega);have C16:=(C14.grown G15 (by simp;omega)).grown hg16 (fun e=>hne6 g6 e rfl);have H2:=(H2.grown G15 (by simp;omega)).grown hg16 (fun e=>hne2 g2 e rfl);have P16:=P15.grown hg16 (fun e=>hneg g e rfl);have G016:=q0f G015 hg16 (fun g' h=>.inr (by have:=hvl g' h;omega));have hvc16:=q6v o16;(refine Ls (q0g rfl) ?_);refine q1a rfl (v:=v16) rfl hvc16 C16 (by simp [qC]) ?_;intro w17 B17 hg17 hs17;have H2:=H2.grown hg17 (by simp;omega);have P17:=P16.grown hg17 (by simp;omega);(refine q0c<|tn<|q0b<|q0a<|Ls (q2o (size:=4) rfl B17 rfl) ?_);refine q0m (size:=4) (l:=qC ((7:Nat):Int) (c:Nat) (n:Nat) v16) rfl rfl rfl (q5o hvc16) H2 rfl ?_;intro w18 B18 hg18 hs18;(refine q0c<|tn<|q0r<|br<|tr<|tr<|br<|tr ?_);have hg1:q4f σ2 (Qy.fils 7) [l1,l2]:=by
            rw [fils7];exact q3d vl1 (q3d (z2w _ _) (q3d vl2 (q5i _ _)))
          refine q1h rfl rfl (Res.cellA (cs:=qry ⟨7,c,n,[l1,l2]⟩ v16) inferInstance rfl (B18.range (fun j u h=>by rw [Nat.zero_add];exact h)) rfl .nil) ?_;refine ⟨v16,⟨7,c,n,[l1,l2]⟩,rfl,q0f (q0f G016 hg17 (fun g h=>by cases h;exact .inr (by omega))) hg18 (fun g h=>by cases h;exact .inr (by omega)),?_,hqv' _ hg1,[u1,u2],rfl,?_,fun i u f hu hf=>?_⟩
          · rw [q2y hg1,q5j,fils7,q2y vl1,q2y (z2w _ _),q2y vl2,q5j];exact P17.grown hg18 (by simp;omega)
          · exact (Row.of_own (q4j (q4j o16 hg17 (fun g' h=>by cases h;omega)) hg18 (fun g' h=>by cases h;omega))).wide (by omega) (by omega)
          · match i,hu,hf with
            | 0,hu,hf =>
              simp at hu;subst hu;simp [filC] at hf;subst hf;rw [List.length_map];exact ((R16.grown hg17 (fun g' h=>by cases h;exact .inl (by omega))).grown hg18 (fun g' h=>by cases h;exact .inl (by omega))).wide (by omega) (by omega)
            | 1,hu,hf =>
              simp at hu;subst hu;simp [filC] at hf;subst hf;rw [List.length_map];exact ((S16.grown hg17 (fun g' h=>by cases h;exact .inl (by omega))).grown hg18 (fun g' h=>by cases h;exact .inl (by omega))).wide (by omega) (by omega)
            | i+2,hu,hf=>simp at hu
        · have hk7':k ≠ 7:=by
            rintro rfl;exact hk7 rfl
          (refine q0o<|tn<|q0b<|q0a<|Ls (q2o (size:=4) rfl B13 rfl) ?_);refine q0m (size:=4) (l:=qC (k:Nat) (c:Nat) (n:Nat) v12) rfl rfl rfl (q5o hvc) H2 rfl ?_;intro w14 B14 hg14 hs14;(refine q0c<|tn<|q0r<|br<|tr<|tr<|br<|tr ?_);have hg1:q4f σ2 (Qy.fils k) [l1]:=(by rw [fils1 hk7'];exact q3d vl1 (q5i _ _));refine q1h rfl rfl (Res.cellA (cs:=qry ⟨k,c,n,[l1]⟩ v12) inferInstance rfl (B14.range (fun j u h=>by rw [Nat.zero_add];exact h)) rfl .nil) ?_;refine ⟨v12,⟨k,c,n,[l1]⟩,rfl,q0f G13 hg14 (fun g h=>by cases h;exact .inr (by omega)),?_,hqv' _ hg1,[u1],rfl,?_,fun i u f hu hf=>?_⟩
          · rw [q2y hg1,q5j,fils1 hk7',q2y vl1,q5j];exact P13.grown hg14 (by simp;omega)
          · exact (Row.of_own (q4j o13 hg14 (fun g' h=>by cases h;omega))).wide (by omega) (by omega)
          · cases i with
            | succ i=>simp at hu
            | zero =>
              simp at hu;subst hu;simp [filC] at hf;subst hf;rw [List.length_map];exact (R13.grown hg14 (fun g' h=>by cases h;exact .inl (by omega))).wide (by omega) (by omega)
      · (refine Ls (q2d rfl)<|q0c<|tn<|q0v rfl<|q1b<|te<|bx<|tn<|q0a<|m_I rfl<|Ls (q1e rfl rfl (by omega))<|a_I rfl<|q0c<|tn ?_);refine ⟨8 - (k+1),by omega,k+1,rfl,by omega,by omega,G06,P6,fun l hl=>?_,F5.grown G6 (by omega),E2',rfl,rfl,rfl,rfl⟩;rw [hq l hl,show 8 - k=(8 - (k+1))+1 by omega];simp only [Qy.queryF,hno l hl]
    · obtain rfl:k=8:=(by omega);(refine q0b<|q0b<|q0a<|m_I rfl<|Ls (z2f rfl rfl (by omega))<|q0c<|tn<|q0q rfl<|q1b<|te<|te<|bx<|tn<|q0b<|q0a<|m_P rfl ?_);refine L_fn (q6a g s st (by omega) w3 P3) rfl ?_;rintro e w4 ⟨rfl,G4,P4⟩;refine ⟨_,rfl,?_⟩;have D2:=C2.grown G4 (by simp;omega);have hz3:=G3.size;have hz4:=G4.size;have hlt2:=C2.lt;(refine q0c<|tn<|q0b<|q0a ?_);refine Ls X_mkQ0 ?_;refine q0m (size:=4) (l:=qC 0 0 0 (.slice none 0 0)) rfl rfl rfl (q5o rfl) D2 rfl ?_;intro w5 B5 hg5 hs5;(refine q0c<|tn<|q0r ?_);refine q1h rfl rfl (Res.cellA (cs:=qry Qy.q0 (.slice none 0 0)) inferInstance rfl (B5.range (fun j u h=>by rw [Nat.zero_add];exact h)) rfl .nil) ?_;refine ⟨_,Qy.q0,rfl,q0f (q0f G3 G4 (fun g h=>.inl h)) hg5 (fun g h=>by cases h;exact .inr (by omega)),?_,?_,[],rfl,Row.nil _ _ _ _,fun i u f hu hf=>by simp at hu⟩
      · have:=P4.grown hg5 (by simp;omega);cases st with
        | error e=>exact this
        | ok l=>simpa [after,unx,hq l rfl,Qy.queryF] using this
      · intro l hl a m ha;rw [hq l hl] at ha;simp [Qy.queryF] at ha
theorem X_mkP {n:NN} {f:Fr} {w:World} {d:Option Tmp} {t:TypeId} {pos:String} {af:Array Edge} {g:Option (Nat × Bool)} {x:Operand} {s:ByteArray} (hx:ev n f x=.string s) :
    X Tryz.prog n ⟨d,.build 216 #[(0,x)],t,pos,af,g⟩ f w=.ok (.value (.agg (pC s 0 0 0).toArray)) w:=by
  have:=q1x (P:=Tryz.prog) (ty:=216) (n:=n) (f:=f) (w:=w) (d:=d) (t:=t) (pos:=pos) (af:=af) (g:=g) (Parts.cons (i:=0) (z:=[.string ByteArray.empty]) hx rfl rfl rfl (Parts.nil _));simpa [pC] using this
def parV (p:Qy.Q × Nat × Nat) (v:Value):Value:=.tuple #[.agg (qry p.1 v).toArray,.int .i64 (p.2.1:Nat),.int .i64 (p.2.2:Nat)]
set_option maxRecDepth 100000 in
set_option maxHeartbeats 16000000 in
theorem gparse (s:ByteArray) (hs:s.size≤100000) (w:World) (hw:Tabs w) :
    Calls Tryz.prog 101 #[.string s] w fun e w'=>∃ v:Value,e=.returned (parV (Qy.parse (sb s)) v)∧Ext w w'∧q7v w' w.heap.size w'.heap.size v (filC (Qy.parse (sb s)).1.fs):=by
  refine q0l Tryz.func101 rfl Tryz.ntmps101 rfl ?_;(refine q0b<|q0a ?_);refine q0z ?_;intro g2 w1 B2 hg2 E1 hs1;by_cases hbig:400 < s.size
  · have hp:Qy.parse (sb s)=(Qy.q0,0,2):=Qy.parse_big (by rw [q3j];exact hbig);rw [hp];(refine a_I rfl<|a_I rfl<|q0c<|tn<|q0b<|q0b<|q0a<|m_R rfl<|Ls (q2b rfl)<|Ls (z3d rfl rfl (by omega))<|q0c<|tn<|q0v rfl<|q0b<|q0a ?_);refine Ls X_mkQ0 ?_;refine q0m (size:=4) (l:=qC 0 0 0 (.slice none 0 0)) rfl rfl rfl (q5o rfl) B2 rfl ?_;intro w2 C2 hg2' hs2;(refine a_I rfl<|a_I rfl<|q0c<|tn<|q0r<|tr ?_);refine q1h rfl rfl (Res.cellA (cs:=qry Qy.q0 (.slice none 0 0)) inferInstance rfl (C2.range (fun j u h=>by rw [Nat.zero_add];exact h)) rfl (Res.tmp rfl (Res.tmp rfl .nil))) ?_;exact ⟨_,rfl,E1.then hg2' (fun g h=>by cases h;omega),[],rfl,Row.nil _ _ _ _,fun i u f hu hf=>by simp at hu⟩
  · have hb:Nat.blt 400 (sb s).length=false:=Qy.blt_no (by rw [q3j];omega);(refine a_I rfl<|a_I rfl<|q0c<|tn<|q0b<|q0b<|q0a<|m_R rfl<|Ls (q2b rfl)<|Ls (q9e rfl rfl (by omega))<|q0c<|tn<|q0q rfl<|q0o<|tn<|q0b<|q0a<|m_R rfl ?_);refine Ls (X_mkP rfl) ?_;refine q3t (l:=pC s 0 0 0) rfl ?_;intro g5 w2 B5 hg5 E2 hs2;have P2:PSt w2 g5 s (.ok (Qy.toks (sb s) 0)):=⟨0,0,0,by omega,B5,rfl,rfl,rfl⟩;have hw2:=(hw.ext E1).ext E2;(refine a_P rfl<|q0c<|tn<|q0b<|q0a<|m_P rfl ?_);refine L_fn (gquery g5 s _ hs w2 hw2 P2) rfl ?_;rintro e w3 ⟨v,q,rfl,G3,P3,hv3,F3⟩;refine ⟨_,rfl,?_⟩;have hz3:=G3.size;have hvc:=F3.cell;refine q0z ?_;intro g6 w4 B6 hg6 E4 hs4;refine q0m (size:=4) (l:=qry q v) rfl rfl rfl (q5o hvc) B6 rfl ?_;intro w5 C6 hg6' hs5;have C2:=(((B2.ext E2).grown G3 (by simp;omega)).ext E4).grown hg6' (by simp;omega);have P5:=(P3.ext E4).grown hg6' (by simp;omega);have F5:=(F3.ext E4).grown hg6' (fun g' h=>by cases h;omega);have G5:w2.grownBy w5 (some g5):=q0f (q0f G3 E4 (fun _ h=>by cases h)) hg6' (fun g h=>by cases h;exact .inr (by omega));clear P3 F3 B6 B2 B5 P2
    -- what the run comes to
    have hrun:∀ m,after (.ok (Qy.toks (sb s) 0)) Qy.query=.ok m→Qy.parse (sb s)=match Qy.fin q m with
        | .ok (q,_)=>(q,0,0)
        | .error (o,e)=>(Qy.q0,o,e):=fun m hm=>by
      unfold Qy.parse;rw [hb];simp only [cond_false];simp only [after] at hm;cases hq:Qy.query (Qy.toks (sb s) 0) with
      | error e=>rw [hq] at hm;cases hm
      | ok p =>
        obtain ⟨a,l⟩:=p;obtain rfl:=hv3 _ rfl a l hq;rw [hq] at hm;injection hm with hm;subst hm;rfl
    have herr:∀ e,after (.ok (Qy.toks (sb s) 0)) Qy.query=.error e→Qy.parse (sb s)=(Qy.q0,e.1,e.2):=fun e he=>by
      unfold Qy.parse;rw [hb];simp only [cond_false];simp only [after] at he;cases hq:Qy.query (Qy.toks (sb s) 0) with
      | error e'=>rw [hq] at he;injection he with he;subst he;rfl
      | ok p=>rw [hq] at he;cases he
    generalize after (.ok (Qy.toks (sb s) 0)) Qy.query=σ at *;clear hv3;cases σ with
    | error e =>
      have hp:=herr e rfl;obtain ⟨pos,off,err,hpl,D5,h1,h2,h3⟩:=P5;have he0:¬ err=0:=(by omega);(refine q0c<|tn<|q0b<|q0b<|q0a<|m_P rfl<|Ls (q1l rfl)<|Ls (q0g rfl)<|Ls (X_ld rfl D5 rfl)<|Ls (q4e rfl rfl (by omega))<|m_B rfl<|Lo2 rfl rfl rfl rfl<|Lo2 rfl rfl rfl rfl<|Lo2 rfl rfl rfl rfl<|Lo2 rfl rfl rfl rfl<|Ls (q0p (v:=.bool _) rfl rfl)<|q0c<|tn<|q0q rfl<|q0o<|tn<|q0b<|q0b<|q0a<|m_P rfl<|Ls (q1l rfl)<|Ls (q0g rfl)<|Ls (X_ld rfl D5 rfl)<|Ls (q4d rfl rfl (by omega))<|q0c<|tn<|q0v rfl<|q0b ?_);apply z3e (R:=RB g2 161 (qC 0 0 0 (.slice none 0 0)) (qC 0 0 0 (.slice none 0 0))) (AB g2 161 (qC 0 0 0 (.slice none 0 0)) (qC 0 0 0 (.slice none 0 0)) w5) 12 (by kernel_rfl) (RB.refl _ _ _ _) (AB.new C2) AB.step;((with_reducible apply DW_x);(exact fun r w hA hH=>(X_mkQ0).trans rfl));(apply DW_x (fun r w hA hH=>(q0d (v:=.pointer _) rfl).trans rfl);apply DW_x (fun r w hA hH=>(q1l rfl).trans rfl);apply DW_x (fun r w hA hH=>(q0g rfl).trans rfl);apply DW_x (fun r w hA hH=>(X_ld rfl (D5.grown hA.1 (by simp;omega)) rfl).trans rfl);apply DW_x (fun r w hA hH=>(q0d (v:=.pointer _) rfl).trans rfl);apply DW_x (fun r w hA hH=>(q1l rfl).trans rfl);apply DW_x (fun r w hA hH=>(q0g rfl).trans rfl);apply DW_x (fun r w hA hH=>(X_ld rfl (D5.grown hA.1 (by simp;omega)) rfl).trans rfl));apply z4g (fun _=>rfl) (fun _=>rfl) rfl rfl (q5o rfl);(apply DW_x (fun r w hA hH=>(q0e (v:=.int _ _) rfl).trans rfl);apply DW_x (fun r w hA hH=>(q0e (v:=.int _ _) rfl).trans rfl));((with_reducible exact q2e);(exact rfl);(repeat (first | exact .inr (.inr (fun _ _=>by with_reducible rfl)) | (refine And.intro ?_ ?_) | exact .inr (.inl rfl) | exact .inl (by decide +kernel) | exact trivial | exact .inr (.inr (fun _ _=>rfl))));(try dsimp only [Nat.reduceAdd]));intro r w6 A6 H6;have B6:Blk w6 g2 161 (qC 0 0 0 (.slice none 0 0)):=H6 9;(refine q0c<|tn<|q0r<|tr ?_);rw [hp];refine q1h rfl rfl (Res.cellA (cs:=qry Qy.q0 (.slice none 0 0)) inferInstance rfl (B6.range (fun j u h=>by rw [Nat.zero_add];exact h)) rfl (Res.tmp rfl (Res.tmp rfl .nil))) ?_;rw [← h1,← h2];exact ⟨_,rfl,((E1.trans E2).then G5 (fun g h=>by cases h;omega)).then A6.1 (fun g h=>by cases h;omega),[],rfl,Row.nil _ _ _ _,fun i u f hu hf=>by simp at hu⟩
    | ok m =>
      have hp:=hrun m rfl;obtain ⟨pos,off,err,hpl,D5,rfl,rfl,ht⟩:=P5;obtain ⟨hta,r0,hl⟩:=z3j ht;have hkinds:=Qy.scan_kinds ((sb s).drop pos) pos;have htb:=tok_b (l:=(sb s).drop pos) (fun c hc=>z0q s c (List.mem_of_mem_drop hc)) pos;have htl:(Qy.scan ((sb s).drop pos) pos).text.length≤s.size:=by
        have:=Qy.scan_fits ((sb s).drop pos) pos;rw [List.length_drop,q3j] at this;omega
      have hpk:=gpeek g5 s pos 0 0 hpl (by omega) w5 D5;have hp':=pos_ws hpl;obtain ⟨t,hT⟩:∃ t,t=Qy.scan ((sb s).drop pos) pos:=⟨_,rfl⟩;obtain ⟨p',hpe⟩:∃ p',p'=pos+Qy.ws ((sb s).drop pos):=⟨_,rfl⟩;simp only [← hT,← hpe] at hpk hkinds htb htl hl hp' hta;clear hT hpe;have hkk:t.kind < 256:=(by rcases hkinds with ⟨k,_⟩ | ⟨k,_⟩ | ⟨k,_⟩ | ⟨k,_⟩ | ⟨k,_⟩ <;> omega);have hk0:t.kind=0→t.text=[]:=fun h=>(by rcases hkinds with ⟨_,t,_⟩ | ⟨k,_⟩ | ⟨k,_⟩ | ⟨k,_⟩ | ⟨k,_⟩ <;> first | exact t | omega);obtain ⟨z,hz'⟩:∃ z:Bool,z=true↔¬ (t.kind=0∧t.text=[]):=⟨decide (¬ (t.kind=0∧t.text=[])),decide_eq_true_iff⟩;have hgl:g5 < w5.heap.size:=D5.lt;(refine q0c<|tn<|q0b<|q0b<|q0a<|m_P rfl<|Ls (q1l rfl)<|Ls (q0g rfl)<|Ls (X_ld rfl D5 rfl)<|Ls (q3h rfl rfl (by omega))<|m_B rfl<|Lg2 rfl rfl rfl (q0d (v:=.pointer _) rfl) ?_);refine q2h rfl rfl rfl ?_;refine L_fn hpk rfl ?_;rintro e w6 ⟨rfl,G6,D6⟩;refine ⟨_,rfl,?_⟩;have hz6:=G6.size;refine q2h rfl rfl rfl ?_;refine Ls (z4c (k:=0) rfl) ?_;refine q2h rfl rfl rfl ?_;refine Ls (X_neqTok hkk (by decide) (by omega) (by decide) htb (by decide) rfl rfl hz') ?_;have P6:PSt w6 g5 s (.ok m):=⟨p',0,0,hp',D6,rfl,rfl,hta⟩;have C2':=C2.grown G6 (by simp;omega);have C6':=C6.grown G6 (by simp;omega);have F6:=F5.grown G6 (fun g' h=>by cases h;exact .inl (by omega));have G06:=q0f G5 G6 (fun g h=>.inl h);subst hl;by_cases hk:t.kind=0
      · obtain rfl:z=false:=by
          cases z
          · rfl
          · exact absurd ⟨hk,hk0 hk⟩ (hz'.1 rfl)
        have hfin:Qy.parse (sb s)=(q,0,0):=(by rw [hp];simp [Qy.fin,hk]);rw [hfin];(refine Ls (q0k (v:=.bool _) rfl rfl)<|q0c<|tn<|q0q rfl<|q0o<|tn<|q0b<|q0b<|q0a<|m_P rfl<|Ls (q1l rfl)<|Ls (q0g rfl)<|Ls (X_ld rfl D6 rfl)<|Ls (q3g rfl rfl (by omega))<|q0c<|tn<|q0q rfl<|q0o<|tn<|q0b<|q0a<|Ls (q2o (size:=4) rfl C6' rfl) ?_);refine q0m (size:=4) (l:=qry q v) rfl rfl rfl (q5o hvc) C2' rfl ?_;intro w7 B7 hg7 hs7;(refine a_I rfl<|a_I rfl<|q0c<|tn<|q0r ?_);refine q1h rfl rfl (Res.cellA (cs:=qry q v) inferInstance rfl (B7.range (fun j u h=>by rw [Nat.zero_add];exact h)) rfl (Res.tmp rfl (Res.tmp rfl .nil))) ?_;exact ⟨v,rfl,((E1.trans E2).then G06 (fun g h=>by cases h;omega)).then hg7 (fun g h=>by cases h;omega),(F6.grown hg7 (fun g' h=>by cases h;exact .inl (by omega))).wide (by omega) (by omega)⟩
      · obtain rfl:z=true:=hz'.2 fun h=>hk h.1;have hfin:Qy.parse (sb s)=(Qy.q0,(Qy.unexp (t :: r0)).1,(Qy.unexp (t :: r0)).2):=by
          rw [hp];have:(t.kind == 0)=false:=(by simp [hk]);simp [Qy.fin,this]
        rw [hfin];(refine Ls (q0k (v:=.bool _) rfl rfl)<|q0c<|tn<|q0v rfl<|q0a<|m_P rfl ?_);refine L_fn (q6a g5 s _ (by omega) w6 P6) rfl ?_;rintro e w7 ⟨rfl,G7,P7⟩;refine ⟨_,rfl,?_⟩;obtain ⟨pos7,off7,err7,_,D7,h1,h2,h3⟩:=P7;have he0:¬ err7=0:=(by rw [h2];exact h3);have C7:=C2'.grown G7 (by simp;omega);have hz7:=G7.size;(refine q0c<|tn<|q0b<|q0b<|q0a<|m_P rfl<|Ls (q1l rfl)<|Ls (q0g rfl)<|Ls (X_ld rfl D7 rfl)<|Ls (q4d rfl rfl (by omega))<|q0c<|tn<|q0v rfl<|q0b ?_);apply z3e (R:=RB g2 161 (qC 0 0 0 (.slice none 0 0)) (qC 0 0 0 (.slice none 0 0))) (AB g2 161 (qC 0 0 0 (.slice none 0 0)) (qC 0 0 0 (.slice none 0 0)) w7) 12 (by kernel_rfl) (RB.refl _ _ _ _) (AB.new C7) AB.step;((with_reducible apply DW_x);(exact fun r w hA hH=>(X_mkQ0).trans rfl));(apply DW_x (fun r w hA hH=>(q0d (v:=.pointer _) rfl).trans rfl);apply DW_x (fun r w hA hH=>(q1l rfl).trans rfl);apply DW_x (fun r w hA hH=>(q0g rfl).trans rfl);apply DW_x (fun r w hA hH=>(X_ld rfl (D7.grown hA.1 (by simp;omega)) rfl).trans rfl);apply DW_x (fun r w hA hH=>(q0d (v:=.pointer _) rfl).trans rfl);apply DW_x (fun r w hA hH=>(q1l rfl).trans rfl);apply DW_x (fun r w hA hH=>(q0g rfl).trans rfl);apply DW_x (fun r w hA hH=>(X_ld rfl (D7.grown hA.1 (by simp;omega)) rfl).trans rfl));apply z4g (fun _=>rfl) (fun _=>rfl) rfl rfl (q5o rfl);(apply DW_x (fun r w hA hH=>(q0e (v:=.int _ _) rfl).trans rfl);apply DW_x (fun r w hA hH=>(q0e (v:=.int _ _) rfl).trans rfl));((with_reducible exact q2e);(exact rfl);(repeat (first | exact .inr (.inr (fun _ _=>by with_reducible rfl)) | (refine And.intro ?_ ?_) | exact .inr (.inl rfl) | exact .inl (by decide +kernel) | exact trivial | exact .inr (.inr (fun _ _=>rfl))));(try dsimp only [Nat.reduceAdd]));intro r w8 A8 H8;have B8:Blk w8 g2 161 (qC 0 0 0 (.slice none 0 0)):=H8 9;(refine q0c<|tn<|q0r<|tr ?_);refine q1h rfl rfl (Res.cellA (cs:=qry Qy.q0 (.slice none 0 0)) inferInstance rfl (B8.range (fun j u h=>by rw [Nat.zero_add];exact h)) rfl (Res.tmp rfl (Res.tmp rfl .nil))) ?_;rw [← h1,← h2];exact ⟨_,rfl,(((E1.trans E2).then G06 (fun g h=>by cases h;omega)).then G7 (fun g h=>by cases h;omega)).then A8.1 (fun g h=>by cases h;omega),[],rfl,Row.nil _ _ _ _,fun i u f hu hf=>by simp at hu⟩
def wid (a:Nat):Nat:=if a=0 then 4 else if a=1 then 8 else if a=2 then 4 else 8
structure Wd (w:World):Prop where
  h:∃ b es clk,w.cell? ⟨2,0,none⟩=some (.map (some b))∧w.heap[b]?=some (.map es clk)∧∀ a:Nat,a < 4→∀ w':World,w'.heap[b]?=some (.map es clk)→(Instr.lookup 331 (.map (some b)) (.int .i64 (a:Nat)) false).run Tryz.prog w'=.ok (.int .i64 (wid a:Nat)) w'
theorem Wd.ext {w w':World} (h:Wd w) (E:Ext w w'):Wd w':=by
  obtain ⟨b,es,clk,h1,h2,h3⟩:=h;exact ⟨b,es,clk,E.cell h1,E.heap h2,h3⟩
theorem X_lk {P:Program} {n:NN} {f:Fr} {w:World} {d:Option Tmp} {t ty:TypeId} {pos:String} {af:Array Edge} {g:Option (Nat × Bool)} {x y:Operand} {m k v:Value} (h:(Instr.lookup ty m k false).run P w=.ok v w) (hx:ev n f x=m) (hy:ev n f y=k) :
    X P n ⟨d,.lookup ty x y false,t,pos,af,g⟩ f w=.ok (.value v) w:=by
  simp [X,execOp,hx,hy,h,Result.andThen]
theorem gbits (a:Nat) (ha:a < 4) (w:World) (hw:Wd w):Calls Tryz.prog 142 #[.int .i64 (a:Nat)] w fun e w'=>e=.returned (.int .i64 (wid a:Nat))∧Ext w w':=by
  refine q0l Tryz.func142 rfl Tryz.ntmps142 rfl ?_;obtain ⟨b,es,clk,h1,h2,h3⟩:=hw;have hl:=h3 a ha w h2;(refine q0b<|q0a<|a_I rfl<|q0c<|tn<|q0b<|q0a<|Ls (z4d rfl h1)<|m_I rfl ?_);refine Ls (X_lk hl rfl rfl) ?_;(refine a_I rfl<|q0c<|tn<|q0r ?_);exact q0i rfl rfl (v:=.int .i64 _) rfl ⟨rfl,Ext.refl w⟩
theorem shlw {a:Nat} (ha:a < 4):IntKind.i64.wrap (1 * 2 ^ min ((wid a:Nat):Int).toNat IntKind.i64.bits)=((2 ^ wid a:Nat):Int):=by
  match a,ha with
  | 0,_=>decide
  | 1,_=>decide
  | 2,_=>decide
  | 3,_=>decide
theorem widle {a:Nat} (ha:a < 4):16≤2 ^ wid a∧2 ^ wid a≤256:=by
  match a,ha with
  | 0,_=>decide
  | 1,_=>decide
  | 2,_=>decide
  | 3,_=>decide
def spV (a:Nat):List Value:=[.int .i64 0,.int .i64 (((2 ^ wid a:Nat):Int) - 1)]
set_option maxHeartbeats 1000000 in
theorem gunder (a:Nat) (ha:a < 4) (A:Option Addr) (c:Nat) (w:World) (hw:Wd w):Calls Tryz.prog 309 #[.slice A 0 c,.int .i64 (a:Nat)] w fun e w'=>e=.returned (.agg (spV a).toArray)∧Ext w w':=by
  refine q0l Tryz.func309 rfl Tryz.ntmps309 rfl ?_;have hb:=widle ha;have he:=shlw ha;(refine q0b<|q0a ?_);refine q0z ?_;intro g4 w4 B4 hg4 E4 hs4;(refine q0c<|tn<|q0b<|q0a<|m_I rfl ?_);refine L_fn (gbits a ha w4 (hw.ext E4)) rfl ?_;rintro e w5 ⟨rfl,E5⟩;refine ⟨_,rfl,?_⟩;refine Ls (v:=.int .i64 ((2 ^ wid a:Nat):Int)) ((q6h rfl rfl (by omega)).trans (by rw [he])) ?_;(refine Ls (q2q rfl rfl (by omega)) ?_);refine Ls (q1x (r:=[(0,.const (.int .i64 0)),(1,.tmp 11)]) (zs':=[[.int .i64 0],[.int .i64 (((2 ^ wid a:Nat):Int) - 1)]]) (Parts.cons (c:=[.int .i64 0]) (z:=[.int .i64 0]) rfl rfl rfl rfl (Parts.cons (c:=[.int .i64 (((2 ^ wid a:Nat):Int) - 1)]) (z:=[.int .i64 0]) rfl rfl rfl rfl (Parts.nil _)))) ?_;refine q0z ?_;intro g6 w6 B6 hg6 E6 hs6;refine q0m (l:=spV a) rfl rfl rfl ?_ B6 rfl ?_
  · intro v hv;simp [spV] at hv;rcases hv with rfl | rfl <;> rfl
  intro w7 B7 hg7 hs7;have B47:=((B4.ext E5).ext E6).grown hg7 (by intro h;cases h;have:=E5.size;omega);(refine q0c<|tn<|q0b<|q0b<|q0a<|m_S rfl<|Ls (q0h rfl)<|m_I rfl<|q0c<|tn<|q0j ?_);refine q1k (fun q f w'=>f 4=.pointer (some ⟨g4,0,none⟩)∧f 5=.pointer (some ⟨g6,0,none⟩)∧f 14=.int .i64 0∧f 15=.int .i64 0∧w'=w7) 0 ⟨rfl,rfl,rfl,rfl,rfl⟩ ?_;rintro q f w8 ⟨f4,f5,f14,f15,rfl⟩;rw [fold f4,fold f5,fold f14,fold f15];(refine q0b<|q0a<|Ls (q3e rfl rfl (by omega))<|q0c<|tn<|q0b<|q0q rfl<|q1b<|te<|te<|bx<|tn<|q0b<|q0a<|Ls (q2o rfl B7 rfl) ?_);refine q0m (l:=spV a) rfl rfl rfl ?_ B47 rfl ?_
  · intro v hv;simp [spV] at hv;rcases hv with rfl | rfl <;> rfl
  intro w9 B9 hg9 hs9;(refine q0c<|tn<|q0r ?_);refine q1h rfl rfl (Res.cellA inferInstance rfl (B9.range (o:=0) (fun j u h=>by rw [Nat.zero_add];exact h)) rfl .nil) ?_;have h4s:=E4.size;have h5s:=E5.size;have h6s:=E6.size;exact ⟨rfl,((E4.trans (E5.trans E6)).then hg7 fun q h=>by cases h;omega).then hg9 fun q h=>by cases h;omega⟩
set_option maxHeartbeats 1000000 in
theorem gsat1 (a:Nat) (ha:a < 4) (A:Option Addr) (c g:Nat) (w:World) (hw:Wd w) (hB:Blk w g 255 [.slice A 0 c]):Calls Tryz.prog 373 #[.int .i64 (a:Nat),.pointer (some ⟨g,0,none⟩)] w fun e w'=>e=.returned (.bool false)∧Ext w w':=by
  refine q0l Tryz.func373 rfl Tryz.ntmps373 rfl ?_;have hb:=widle ha;(refine q0b<|q0a<|a_B rfl<|q0c<|tn<|q0b<|q0a<|Ls (X_ld rfl hB rfl)<|m_I rfl ?_);refine L_fn (gunder a ha A c w hw) rfl ?_;rintro e w5 ⟨rfl,E5⟩;refine ⟨_,rfl,?_⟩;refine q0z ?_;intro g6 w6 B6 hg6 E6 hs6;refine q0m (l:=spV a) rfl rfl rfl ?_ B6 rfl ?_
  · intro v hv;simp [spV] at hv;rcases hv with rfl | rfl <;> rfl
  intro w7 B7 hg7 hs7;(refine q0c<|tn<|q0b<|q0a<|Ls (q0g rfl)<|Ls (X_ld rfl B7 rfl)<|Ls (q0g rfl)<|Ls (X_ld rfl B7 rfl)<|Ls (q9e rfl rfl (by omega))<|a_B rfl<|q0c<|tn<|q0r ?_);have h5s:=E5.size;have h6s:=E6.size;exact q0i rfl rfl (v:=.bool _) rfl ⟨rfl,(E5.trans E6).then hg7 fun q h=>by cases h;omega⟩
set_option maxHeartbeats 1000000 in
theorem gidxf (A:Option Addr) (c g gs:Nat) (w:World) (hw:Wd w) (hB:Blk w g 255 [.slice A 0 c]) (hs:Blk w gs 3 (ints .i64 [0,1,2,3])):Calls Tryz.prog 435 #[.slice (some ⟨gs,0,none⟩) 4 4,.func (.func 373) #[] #[.pointer (some ⟨g,0,none⟩)]] w fun e w'=>e=.returned (.int .i64 (-1))∧Ext w w':=by
  refine q0l Tryz.func435 rfl Tryz.ntmps435 rfl ?_;(refine q0b<|q0a<|a_I rfl<|q0c<|tn<|q0b<|q0b<|q0a<|m_S rfl<|Ls (q0h rfl)<|m_I rfl<|q0c<|tn<|q0j ?_);refine q1k (fun q f w'=>∃ i:Nat,q=4 - i∧i≤4∧f 0=.slice (some ⟨gs,0,none⟩) 4 4∧f 1=.func (.func 373) #[] #[.pointer (some ⟨g,0,none⟩)]∧f 7=.int .i64 4∧f 8=.int .i64 (i:Nat)∧Ext w w') 4 ?_ ?_
  · exact ⟨0,rfl,by omega,rfl,rfl,rfl,rfl,Ext.refl w⟩
  · rintro q f w1 ⟨i,rfl,hi,f0,f1,f7,f8,E⟩;rw [fold f0,fold f1,fold f7,fold f8];(refine q0b<|q0a<|Ls (q1w rfl rfl)<|q0c<|tn<|q0b ?_);refine q1d rfl (fun h=>?_) (fun h=>?_)
    · have hi':i < 4:=(by omega);have hix:(ints .i64 [0,1,2,3])[i]?=some (.int .i64 (i:Nat)):=by
        match i,hi' with
        | 0,_=>rfl
        | 1,_=>rfl
        | 2,_=>rfl
        | 3,_=>rfl
      (refine q0o<|tn<|q0b<|q0j<|q0b<|q0a<|m_I rfl<|a_I rfl<|q0c<|tn<|q0b<|q0a<|Ls (q0d (v:=.func _ _ _) rfl)<|m_S rfl<|m_I rfl<|Ls (q0n rfl rfl (by omega))<|Ls (q2l rfl ((hs.ext E).range (o:=0) fun j u h=>by rw [Nat.zero_add];exact h) (j:=i) (by omega) hix) ?_);refine q6k (vl:=[.int .i64 (i:Nat)]) rfl (gsat1 i hi' A c g w1 (hw.ext E) (hB.ext E)) rfl ?_;rintro e w2 ⟨rfl,E2⟩;refine ⟨_,rfl,?_⟩;(refine q0c<|tn<|q0q rfl<|q0o<|bn<|tn<|q0a<|Ls (q1e rfl rfl (by omega))<|m_I rfl<|q0c<|tn ?_);exact ⟨4 - (i+1),by omega,i+1,rfl,by omega,rfl,rfl,rfl,rfl,E.trans E2⟩
    · (refine q1b<|te<|te<|bx<|tn<|q0b<|q0a<|a_I rfl<|q0c<|tn<|q0r ?_);exact q0i rfl rfl (v:=.int .i64 _) rfl ⟨rfl,E⟩
theorem gconf (A:Option Addr) (c g gs:Nat) (w:World) (hw:Wd w) (hB:Blk w g 255 [.slice A 0 c]) (hs:Blk w gs 3 (ints .i64 [0,1,2,3])):Calls Tryz.prog 372 #[.slice (some ⟨gs,0,none⟩) 4 4,.func (.func 373) #[] #[.pointer (some ⟨g,0,none⟩)]] w fun e w'=>e=.returned (.bool false)∧Ext w w':=by
  refine q0l Tryz.func372 rfl Tryz.ntmps372 rfl ?_;(refine q0b<|q0a<|a_B rfl<|q0c<|tn<|q0b<|q0a<|m_S rfl<|Ls (q0d (v:=.func _ _ _) rfl) ?_);refine L_fn (gidxf A c g gs w hw hB hs) rfl ?_;rintro e w2 ⟨rfl,E2⟩;refine ⟨_,rfl,?_⟩;(refine Ls (q7r rfl rfl (by omega))<|a_B rfl<|q0c<|tn<|q0r ?_);exact q0i rfl rfl (v:=.bool _) rfl ⟨rfl,E2⟩
theorem gsatis (A:Option Addr) (c:Nat) (w:World) (hw:Wd w):Calls Tryz.prog 307 #[.slice A 0 c] w fun e w'=>e=.returned (.bool true)∧Ext w w':=by
  refine q0l Tryz.func307 rfl Tryz.ntmps307 rfl ?_;(refine q0b<|q0a ?_);refine L_box1 (v:=.slice A 0 c) rfl rfl ?_;intro g1 w1 B1 hg1 E1 hs1;(refine a_B rfl<|q0c<|tn<|q0b<|q0a ?_);refine Ls (q6g (z:=[.int .i64 0]) (zs':=[[.int .i64 0],[.int .i64 1],[.int .i64 2],[.int .i64 3]]) (cs:=ints .i64 [0,1,2,3]) (len:=4) ?_ rfl rfl) ?_
  · repeat (first | exact Parts.nil _ | refine Parts.cons rfl rfl rfl rfl ?_)
  have E7:Ext w1 (w1.alloc (.cells (ints .i64 [0,1,2,3]).toArray 3)):=q1m _ _;have B7:Blk (w1.alloc (.cells (ints .i64 [0,1,2,3]).toArray 3)) w1.heap.size 3 (ints .i64 [0,1,2,3]):=Blk.new _ _ _;generalize w1.alloc (.cells (ints .i64 [0,1,2,3]).toArray 3)=w7 at *;generalize w1.heap.size=g7 at *;refine Ls (q1u (vf:=[]) (vc:=[.pointer (some ⟨g1,0,none⟩)]) rfl rfl) ?_;refine L_fn (gconf A c g1 g7 w7 (hw.ext (E1.trans E7)) (B1.ext E7) B7) rfl ?_;rintro e w2 ⟨rfl,E2⟩;refine ⟨_,rfl,?_⟩;(refine Ls (q2d rfl)<|a_B rfl<|q0c<|tn<|q0r ?_);exact q0i rfl rfl (v:=.bool _) rfl ⟨rfl,E1.trans (E7.trans E2)⟩
set_option maxRecDepth 100000 in
theorem gmul01 (w:World):Calls Tryz.prog 377 #[.int .u64 0,.int .u64 1] w fun e w'=>e=.returned (.tuple #[.int .u64 0,.int .u64 0])∧w'=w:=by
  refine q0l Tryz.func377 rfl Tryz.ntmps377 rfl ?_;(refine q0b<|q0a<|a_I rfl<|a_I rfl<|q0c<|tn<|q0b<|q0a<|m_I rfl<|Ls (q4q rfl rfl)<|a_I rfl<|q0c<|tn<|q0b<|q0a<|m_I rfl<|Ls (q4g rfl rfl (by omega))<|a_I rfl<|q0c<|tn<|q0b<|q0a<|m_I rfl<|Ls (q4q rfl rfl)<|a_I rfl<|q0c<|tn<|q0b<|q0a<|m_I rfl<|Ls (q4g rfl rfl (by omega))<|a_I rfl<|q0c<|tn<|q0b<|q0a<|m_I rfl<|m_I rfl<|Ls (q5g rfl rfl)<|a_I rfl<|q0c<|tn<|q0b<|q0a<|m_I rfl<|m_I rfl<|Ls (q5g rfl rfl)<|m_I rfl<|Ls (q4g rfl rfl (by omega))<|Ls (q3b rfl rfl)<|a_I rfl<|q0c<|tn<|q0b<|q0a<|m_I rfl<|Ls (q4q rfl rfl)<|a_I rfl<|q0c<|tn<|q0b<|q0a<|m_I rfl<|Ls (q4g rfl rfl (by omega))<|a_I rfl<|q0c<|tn<|q0b<|q0a<|m_I rfl<|m_I rfl<|m_I rfl<|Ls (q5g rfl rfl)<|Ls (q3b rfl rfl)<|a_I rfl<|q0c<|tn<|q0b<|q0a<|m_I rfl<|m_I rfl<|Ls (q5g rfl rfl)<|m_I rfl<|Ls (q3b rfl rfl)<|m_I rfl<|Ls (q4g rfl rfl (by omega))<|Ls (q3b rfl rfl)<|a_I rfl<|q0c<|tn<|q0b<|q0a<|m_I rfl<|m_I rfl<|Ls (q5g rfl rfl)<|a_I rfl<|q0c<|tn<|q0r ?_);exact q9x rfl rfl (v:=.int .u64 0) (x:=.int .u64 0) (by kernel_rfl) (by kernel_rfl) ⟨rfl,rfl⟩
set_option maxRecDepth 100000 in
set_option maxHeartbeats 1000000 in
theorem gmult1 (ga gb:Nat) (w:World) (hA:Blk w ga 32 [.int .u64 0]) (hB:Blk w gb 4 [.bool true]) (hne:ga ≠ gb):Calls Tryz.prog 436 #[.int .i64 1,.pointer (some ⟨ga,0,none⟩),.pointer (some ⟨gb,0,none⟩)] w fun e w'=>e=.returned (.tuple #[.int .i64 0,.bool true])∧∃ w1 w2,w.grownBy w1 (some gb)∧w1.grownBy w2 (some ga)∧Ext w2 w':=by
  refine q0l Tryz.func436 rfl Tryz.ntmps436 rfl ?_;(refine q0b<|q0a<|a_I rfl<|a_B rfl<|q0c<|tn<|q0b<|q0a<|Ls (X_ld rfl hA rfl)<|m_I rfl<|Ls ((q1q rfl).trans (by rw [show IntKind.u64.wrap 1=1 from by decide])) ?_);refine L_fn (gmul01 w) rfl ?_;rintro e w ⟨rfl,rfl⟩;refine ⟨_,rfl,?_⟩;(refine m_T rfl<|Ls (q0u rfl rfl)<|Ls (q0u rfl rfl)<|a_I rfl<|a_I rfl<|q0c<|tn<|q0b<|q0a<|Ls (X_ld rfl hB rfl)<|m_B rfl<|Lg2 rfl rfl rfl (q0d (v:=.int _ _) rfl)<|Lg2 rfl rfl rfl (q3h rfl rfl (by omega))<|Ls (q0k (v:=.bool _) rfl rfl)<|m_B rfl<|Lg2 rfl rfl rfl (q0d (v:=.int _ _) rfl)<|Lg2 rfl rfl rfl (q2p rfl rfl (by omega))<|Ls (q0k (v:=.bool _) rfl rfl) ?_);refine q1a (v:=.bool true) rfl rfl rfl hB (by decide) ?_;intro w1 hB1 hg1 hs1;have hA1:=hA.grown hg1 (by intro h;cases h;exact hne rfl);(refine q0c<|tn<|q0b<|q0a<|m_I rfl ?_);refine q1a (v:=.int .u64 0) rfl rfl rfl hA1 (by decide) ?_;intro w2 hA2 hg2 hs2;have hB2:=hB1.grown hg2 (by intro h;cases h;exact hne rfl);(refine q0c<|tn<|q0b ?_);apply q1r 5 (by kernel_rfl);(apply DW_x (fun r w hA hH=>(X_ld rfl (hA2.ext hA) rfl).trans rfl);apply DW_x (fun r w hA hH=>((q1q rfl).trans (by rw [show IntKind.i64.wrap 0=0 from by decide])).trans rfl);apply DW_x (fun r w hA hH=>(X_ld rfl (hB2.ext hA) rfl).trans rfl);apply DW_x (fun r w hA hH=>(q0e (v:=.int _ _) rfl).trans rfl);apply DW_x (fun r w hA hH=>(q0e (v:=.bool _) rfl).trans rfl));((with_reducible exact q2e);(exact rfl);(repeat (first | exact .inr (.inr (fun _ _=>by with_reducible rfl)) | (refine And.intro ?_ ?_) | exact .inr (.inl rfl) | exact .inl (by decide +kernel) | exact trivial | exact .inr (.inr (fun _ _=>rfl))));(try dsimp only [Nat.reduceAdd]));intro r w3 E3 _;(refine q0c<|tn<|q0r ?_);exact q9x rfl rfl (v:=.int .i64 0) (x:=.bool true) rfl rfl ⟨rfl,w1,w2,hg1,hg2,E3⟩
set_option maxHeartbeats 1000000 in
theorem gmk0 (w:World):Calls Tryz.prog 374 #[.int .i64 0] w fun e w'=>∃ ga gb,e=.returned (.func (.func 436) #[] #[.pointer (some ⟨ga,0,none⟩),.pointer (some ⟨gb,0,none⟩)])∧w.heap.size≤ga∧w.heap.size≤gb∧ga ≠ gb∧Blk w' ga 32 [.int .u64 0]∧Blk w' gb 4 [.bool true]∧Ext w w':=by
  refine q0l Tryz.func374 rfl Tryz.ntmps374 rfl ?_;(refine q0b<|q0a<|Ls (q0e (v:=Value.nilFunc) rfl)<|q0c<|tn<|q0b<|q0a<|m_I rfl<|Ls ((q1q rfl).trans (by rw [show IntKind.u64.wrap 0=0 from by decide])) ?_);refine q0z ?_;intro ga w1 A1 hga E1 hs1;refine q0z ?_;intro gb w2 B2 hgb E2 hs2;have A2:=A1.ext E2;refine q1a (v:=.int .u64 0) rfl rfl rfl A2 (by decide) ?_;intro w3 A3 hg3 hs3;have B3:=B2.grown hg3 (by intro h;cases h;omega);refine q1a (v:=.bool true) rfl rfl rfl B3 (by decide) ?_;intro w4 B4 hg4 hs4;have A4:=A3.grown hg4 (by intro h;cases h;omega);(refine q0c<|tn<|q0b<|q0a ?_);refine Ls (q1u (vf:=[]) (vc:=[.pointer (some ⟨ga,0,none⟩),.pointer (some ⟨gb,0,none⟩)]) rfl rfl) ?_;(refine Ls (q0e (v:=.func _ _ _) rfl)<|q0c<|tn<|q0r ?_);exact q0i rfl rfl (v:=.func _ _ _) rfl ⟨ga,gb,rfl,by omega,by omega,by omega,A4,B4,((E1.trans E2).then hg3 fun q h=>by cases h;omega).then hg4 fun q h=>by cases h;omega⟩
set_option maxHeartbeats 1000000 in
theorem gpow0 (m:Int) (w:World):Calls Tryz.prog 308 #[.int .i64 0,.int .i64 m,.int .i64 0] w fun e w'=>e=.returned (.tuple #[.int .i64 0,.bool true])∧Ext w w':=by
  refine q0l Tryz.func308 rfl Tryz.ntmps308 rfl ?_;(refine q0b<|q0a<|a_I rfl<|a_B rfl<|q0c<|tn<|q0b<|q0a<|m_I rfl ?_);refine L_fn (gmk0 w) rfl ?_;rintro e w1 ⟨ga,gb,rfl,hga,hgb,hne,A1,B1,E1⟩;refine ⟨_,rfl,?_⟩;(refine Ls (q0e (v:=.func _ _ _) rfl)<|q0c<|tn<|q0b<|q0a<|Ls (q0d (v:=.func _ _ _) rfl) ?_);refine q6k (vl:=[.int .i64 1]) rfl (gmult1 ga gb w1 A1 B1 hne) rfl ?_;rintro e w2 ⟨rfl,wa,wb,hg1,hg2,E2⟩;refine ⟨_,rfl,?_⟩;have E02:=((E1.then hg1 fun q h=>by cases h;omega).then hg2 fun q h=>by cases h;omega).trans E2;(refine m_T rfl<|Ls (q0u rfl rfl)<|Ls (q0u rfl rfl)<|a_I rfl<|a_B rfl<|q0c<|tn<|q0b<|q0b<|q0a<|m_I rfl<|m_I rfl<|q0c<|tn<|q0j ?_);refine q1k (fun q f w'=>f 9=.int .i64 0∧f 10=.bool true∧f 18=.int .i64 0∧f 19=.int .i64 0∧w'=w2) 0 ⟨rfl,rfl,rfl,rfl,rfl⟩ ?_;rintro q f w3 ⟨f9,f10,f18,f19,rfl⟩;rw [fold f9,fold f10,fold f18,fold f19];(refine q0b<|q0a<|Ls (q3e rfl rfl (by omega))<|q0c<|tn<|q0b<|q0q rfl<|q1b<|te<|te<|bx<|tn<|q0b<|q0a<|m_I rfl<|m_B rfl<|a_I rfl<|a_B rfl<|q0c<|tn<|q0r ?_);exact q9x rfl rfl (v:=.int .i64 0) (x:=.bool true) rfl rfl ⟨rfl,E02⟩
theorem gmoment (fv:Value) (h1:fv.oneCell'=true) (w:World):Calls Tryz.prog 210 #[fv] w fun e w'=>∃ g,e=.returned (.func (.func 306) #[] #[.pointer (some ⟨g,0,none⟩)])∧w.heap.size≤g∧Blk w' g 247 [fv]∧Ext w w':=by
  refine q0l Tryz.func210 rfl Tryz.ntmps210 rfl ?_;(refine q0b<|q0a ?_);refine L_box1 (v:=fv) rfl h1 ?_;intro g1 w1 B1 hg1 E1 hs1;(refine Ls (q0e (v:=Value.nilFunc) rfl)<|q0c<|tn<|q0b<|q0a ?_);refine Ls (q1u (vf:=[]) (vc:=[.pointer (some ⟨g1,0,none⟩)]) rfl rfl) ?_;(refine Ls (q0e (v:=.func _ _ _) rfl)<|q0c<|tn<|q0r ?_);exact q0i rfl rfl (v:=.func _ _ _) rfl ⟨g1,rfl,by omega,B1,E1⟩
theorem gkin1 (cs:List Value) (_:cs.length=4) (w:World):Calls Tryz.prog 211 #[.agg cs.toArray] w fun e w'=>e=.returned (.int .i64 0)∧Ext w w':=by
  refine q0l Tryz.func211 rfl Tryz.ntmps211 rfl ?_;(refine q0b<|q0a ?_);refine q3t (l:=cs) rfl ?_;intro g1 w1 B1 hg1 E1 hs1;(refine a_I rfl<|q0c<|tn<|q0b<|q0a<|a_I rfl<|q0c<|tn<|q0r ?_);exact q0i rfl rfl (v:=.int .i64 0) rfl ⟨rfl,E1⟩
theorem infKind:(Tryz.prog.info? 224).map (fun i=>(i.zero,i.size,i.bytes))=some (some (.agg ([[.int .i64 0],[.bool false],[.nilFunc]].flatten).toArray),3,24):=by kernel_rfl
instance zeroKind:TZero Tryz.prog 224 [[.int .i64 0],[.bool false],[.nilFunc]].flatten:=q2n infKind (by rfl)
instance segsKind:TSegs Tryz.prog 224 [[.int .i64 0],[.bool false],[.nilFunc]]:=q3r Tryz.underlying224 (by kernel_rfl) (by kernel_rfl)
theorem q7n {n:NN} {f:Fr} {w:World} {d:Option Tmp} {t:TypeId} {pos:String} {af:Array Edge} {g:Option (Nat × Bool)} {x y z:Operand} {a:Int} {b:Bool} {v:Value} (hx:ev n f x=.int .i64 a) (hy:ev n f y=.bool b) (hz:ev n f z=v) (hv:v.oneCell'=true) :
    X Tryz.prog n ⟨d,.build 224 #[(0,x),(1,y),(2,z)],t,pos,af,g⟩ f w=.ok (.value (.agg #[.int .i64 a,.bool b,v])) w:=by
  have:=q1x (P:=Tryz.prog) (ty:=224) (n:=n) (f:=f) (w:=w) (d:=d) (t:=t) (pos:=pos) (af:=af) (g:=g)
    (Parts.cons (i:=0) (z:=[.int .i64 0]) hx rfl rfl rfl (Parts.cons (i:=1) (z:=[.bool false]) hy rfl rfl rfl (Parts.cons (i:=2) (c:=[v]) (z:=[.nilFunc]) hz (q3o hv) rfl rfl (Parts.nil _))))
  simpa using this
set_option maxHeartbeats 2000000 in
theorem gkinds (w:World):Calls Tryz.prog 141 #[] w fun e w'=>∃ q,e=.returned q∧Ext w w'∧∃ b M g,q=.map (some b)∧w.heap.size≤b∧MapI Tryz.prog 3 w' b 7 M∧M 1=some (.agg #[.int .i64 1,.bool false,.func (.func 306) #[] #[.pointer (some ⟨g,0,none⟩)]])∧w.heap.size≤g∧Blk w' g 247 [.func (.func 211) #[] #[]]∧M 4=some (.agg #[.int .i64 16,.bool true,.func (.func 214) #[] #[]]):=by
  refine q0l Tryz.func141 rfl Tryz.ntmps141 rfl ?_;(refine q0b<|q0a<|Ls (q0e (v:=.map _) rfl)<|q0c<|tn<|q0b<|q0a ?_);refine L_makeMap (kt:=3) ?_;intro w1 M1 E1 hs1;obtain ⟨b,hb⟩:∃ b,b=w.heap.size:=⟨_,rfl⟩;rw [← hb] at M1 ⊢;refine L_fn (gmoment (.func (.func 211) #[] #[]) rfl w1) rfl ?_;rintro e w2 ⟨g2,rfl,hg2,B2,E2⟩;refine ⟨_,rfl,?_⟩;refine Ls (q7n rfl rfl rfl rfl) (z0i (q4c rfl rfl rfl (M1.ext E2) (by decide) (by decide) ?_));intro w3 M3 g3 hs3;have B3:=B2.grown g3 (by intro h;cases h;omega);have hw:∀ g,some b=some g→w.heap.size≤g:=fun g h=>by cases h;omega
  have F3:=(E1.trans E2).then g3 hw;refine L_fn (gmoment (.func (.func 212) #[] #[]) rfl w3) rfl ?_;rintro e w4 ⟨h4,rfl,hh4,_,E4⟩;refine ⟨_,rfl,?_⟩;refine Ls (q7n rfl rfl rfl rfl) (z0i (q4c rfl rfl rfl (M3.ext E4) (by decide) (by decide) ?_));intro w5 M5 g5 hs5;have F5:=(F3.trans E4).then g5 hw;have B5:=(B3.ext E4).grown g5 (by intro h;cases h;omega);refine L_fn (gmoment (.func (.func 213) #[] #[]) rfl w5) rfl ?_;rintro e w6 ⟨h6,rfl,hh6,_,E6⟩;refine ⟨_,rfl,?_⟩;refine Ls (q7n rfl rfl rfl rfl) (z0i (q4c rfl rfl rfl (M5.ext E6) (by decide) (by decide) ?_));intro w7 M7 g7 hs7;have F7:=(F5.trans E6).then g7 hw;have B7:=(B5.ext E6).grown g7 (by intro h;cases h;omega);refine Ls (q7n rfl rfl rfl rfl) (z0i (q4c rfl rfl rfl M7 (by decide) (by decide) ?_));intro w8 M8 g8 hs8;have F8:=F7.then g8 hw;have B8:=B7.grown g8 (by intro h;cases h;omega);refine Ls (q7n rfl rfl rfl rfl) (z0i (q4c rfl rfl rfl M8 (by decide) (by decide) ?_));intro w9 M9 g9 hs9;have F9:=F8.then g9 hw;have B9:=B8.grown g9 (by intro h;cases h;omega);refine Ls (q7n rfl rfl rfl rfl) (z0i (q4c rfl rfl rfl M9 (by decide) (by decide) ?_));intro w10 M10 g10 hs10;have F10:=F9.then g10 hw;have B10:=B9.grown g10 (by intro h;cases h;omega);refine Ls (q7n rfl rfl rfl rfl) (z0i (q4c rfl rfl rfl M10 (by decide) (by decide) ?_));intro w11 M11 g11 hs11;have F11:=F10.then g11 hw;have B11:=B10.grown g11 (by intro h;cases h;omega);(refine Ls (q0d (v:=.map _) rfl)<|Ls (q0e (v:=.map _) rfl)<|q0c<|tn<|q0r ?_);exact q0i rfl rfl (v:=.map _) rfl ⟨_,rfl,F11,b,_,g2,rfl,by omega,M11,rfl,by have:=E1.size;omega,B11,rfl⟩
theorem filsOne {w:World} {lo hi:Nat} {v:Value} (h:q7v w lo hi v [[]]):∃ b o c A c',v=.slice (some ⟨b,o,none⟩) 1 c∧w.rangeAt b o [.slice A 0 c']:=by
  obtain ⟨us,h1,h2,h3⟩:=h;obtain ⟨u,rfl⟩:∃ u,us=[u]:=by
    match us,h1 with
    | [u],_=>exact ⟨u,rfl⟩
  obtain ⟨b,o,c,rfl,_,_,_,hr⟩:=h2.at (k:=0) (by decide);obtain ⟨_,A,c',rfl,_⟩:=h3 0 u [] rfl rfl;exact ⟨b,o,c,A,c',rfl,hr⟩
set_option maxRecDepth 100000 in
set_option maxHeartbeats 2000000 in
theorem gmom1 (lo hi g:Nat) (v:Value) (w:World) (hw:Wd w) (hF:q7v w lo hi v [[]]) (hB:Blk w g 247 [.func (.func 211) #[] #[]]) :
    Calls Tryz.prog 306 #[.agg (qC 1 0 0 v).toArray,.int .i64 0,.pointer (some ⟨g,0,none⟩)] w fun e w'=>∃ u,e=.returned (.tuple #[u,.bool true])∧u.oneCell'=true∧Ext w w':=by
  refine q0l Tryz.func306 rfl Tryz.ntmps306 rfl ?_;obtain ⟨b,o,c,A,c',rfl,hR⟩:=filsOne hF;(refine q0b<|q0a ?_);refine q3t (l:=qC 1 0 0 (.slice (some ⟨b,o,none⟩) 1 c)) rfl ?_;intro g3 w3 B3 hg3 E3 hs3;(refine a_S rfl<|a_B rfl<|q0c<|tn<|q0b<|q0b<|q0a<|Ls (q0g rfl)<|Ls (X_ld rfl B3 rfl)<|Ls (q0n (i:=0) rfl rfl (by omega))<|Ls (q2l rfl (E3.range hR) (j:=0) (by omega) rfl) ?_);refine L_fn (gsatis A c' w3 (hw.ext E3)) rfl ?_;rintro e w4 ⟨rfl,E4⟩;refine ⟨_,rfl,?_⟩;have B4:=B3.ext E4;have E34:=E3.trans E4;(refine Ls (q2d rfl)<|q0c<|tn<|q0q rfl<|q0o<|tn<|q0b ?_);apply q1r 18 (by kernel_rfl);(apply DW_x (fun r w hA hH=>(q0d (v:=.int _ _) rfl).trans rfl);apply DW_x (fun r w hA hH=>(q0g rfl).trans rfl);apply DW_x (fun r w hA hH=>(X_ld rfl (B4.ext hA) rfl).trans rfl);apply DW_x (fun r w hA hH=>(q0n (i:=0) rfl rfl (by omega)).trans rfl);apply DW_x (fun r w hA hH=>(q2l rfl ((E34.trans hA).range hR) (j:=0) (by omega) rfl).trans rfl);apply DW_x (fun r w hA hH=>(q0g rfl).trans rfl);apply DW_x (fun r w hA hH=>(X_ld rfl (B4.ext hA) rfl).trans rfl));((with_reducible apply q4r);(exact fun _=>rfl);(exact fun _=>rfl);(exact fun r w hA hH=>gunder 0 (by decide) A c' w (hw.ext (E34.trans hA))));((with_reducible apply DW_x);(exact fun r w hA hH=>(X_field1 (v:=.int .i64 (((2 ^ wid 0:Nat):Int) - 1)) rfl rfl).trans rfl));(apply DW_x (fun r w hA hH=>(X_ld rfl ((hB.ext E34).ext hA) rfl).trans rfl);apply DW_x (fun r w hA hH=>(q2o rfl (B4.ext hA) rfl).trans rfl));with_reducible apply DW_frc (id:=211) (F:=fun u _=>u=.int .i64 0)
  exact fun _=>rfl;exact fun _=>rfl;exact fun r w hA hH=>(gkin1 _ rfl w).mono fun e w' h=>⟨_,h.1,h.2,rfl⟩;exact fun i v w w' _ _ _ h=>h;((with_reducible apply q4r);(exact fun _=>rfl);(exact fun _=>rfl);(exact fun r w hA hH=>(by have e:r 11=.int .i64 0:=hH 11 rfl;show Calls _ _ #[_,_,r 11] _ _;rw [e];exact gpow0 _ w)));(apply DW_x (fun r w hA hH=>(q0d (v:=.tuple _) rfl).trans rfl);apply DW_x (fun r w hA hH=>(q0u rfl rfl).trans rfl);apply DW_x (fun r w hA hH=>(q0u rfl rfl).trans rfl);apply DW_x (fun r w hA hH=>(q0e (v:=.int _ _) rfl).trans rfl);apply DW_x (fun r w hA hH=>(q0e (v:=.bool _) rfl).trans rfl));((with_reducible exact q2e);(exact rfl);(repeat (first | exact .inr (.inr (fun _ _=>by with_reducible rfl)) | (refine And.intro ?_ ?_) | exact .inr (.inl rfl) | exact .inl (by decide +kernel) | exact trivial | exact .inr (.inr (fun _ _=>rfl))));(try dsimp only [Nat.reduceAdd]));intro r w5 E5 _;(refine q0c<|tn<|q0b<|q0a<|m_I rfl ?_);refine q3z (v:=.int .i64 0) rfl rfl ?_;intro u w6 r6 E6 hs6 _;have hu:=q2a r6;(refine m_B rfl<|Ls (q0e (v:=u) rfl)<|a_B rfl<|q0c<|tn<|q0r ?_);exact q9x rfl rfl (v:=u) (x:=.bool true) rfl rfl ⟨u,rfl,hu,E34.trans (E5.trans E6)⟩
def z2l (a:Int) (_:World) (u:Value) (w:World):Prop:=if a=1 then ∃ g,u=.agg #[.int .i64 1,.bool false,.func (.func 306) #[] #[.pointer (some ⟨g,0,none⟩)]]∧Blk w g 247 [.func (.func 211) #[] #[]] else u=.agg #[.int .i64 16,.bool true,.func (.func 214) #[] #[]]
def z2i (_:World) (q:Value) (w:World):Prop:=∃ b M g,q=.map (some b)∧MapI Tryz.prog 3 w b 7 M∧M 1=some (.agg #[.int .i64 1,.bool false,.func (.func 306) #[] #[.pointer (some ⟨g,0,none⟩)]])∧Blk w g 247 [.func (.func 211) #[] #[]]∧M 4=some (.agg #[.int .i64 16,.bool true,.func (.func 214) #[] #[]])
theorem z2i.ext {w0 w w':World} {q:Value} (h:z2i w0 q w) (E:Ext w w'):z2i w0 q w':=by
  obtain ⟨b,M,g,h1,h2,h3,h4,h5⟩:=h;exact ⟨b,M,g,h1,h2.ext E,h3,h4.ext E,h5⟩
theorem kind_ok:(Tryz.prog.info? 224).bind (·.zero)=some (.agg ([[.int .i64 0],[.bool false],[.nilFunc]].flatten).toArray):=by kernel_rfl
set_option maxRecDepth 100000 in
set_option maxHeartbeats 2000000 in
theorem gcheckA (lo hi:Nat) (v:Value) (w:World) (hw:Wd w) (hF:q7v w lo hi v [[]]) :
    Calls Tryz.prog 102 #[.agg (qC 1 0 0 v).toArray,.int .i64 0] w fun e w'=>∃ u,e=.returned (.tuple #[.agg #[u],.int .i64 0])∧u.oneCell'=true∧Ext w w':=by
  refine q0l Tryz.func102 rfl Tryz.ntmps102 rfl ?_;have hv:=hF.cell;(refine q0b<|q0a ?_);refine q3t (l:=qC 1 0 0 v) rfl ?_;intro g2 w2 B2 hg2 E2 hs2;refine q0z ?_;intro g4 w4 B4 hg4 E4 hs4;have B2:=B2.ext E4;have E24:=E2.trans E4;(refine a_I rfl<|q0c<|tn<|q0b<|q0b<|q0a<|Ls (q2o rfl B2 rfl) ?_);refine L_fn (gvalid ⟨1,0,0,[[]]⟩ v lo hi w4 (hF.ext E24) (by decide)) rfl ?_;rintro e w5 ⟨rfl,E5⟩;refine ⟨_,rfl,?_⟩;rw [show decide (Qy.OkI ⟨1,0,0,[[]]⟩)=true from by decide];have B2:=B2.ext E5;have B4:=B4.ext E5;have E25:=E24.trans E5;(refine Ls (q2d rfl)<|m_B rfl<|Lg2 rfl rfl rfl (q0d (v:=.int _ _) rfl)<|Lg2 rfl rfl rfl (q3e rfl rfl (by omega))<|Ls (q0p (v:=.bool _) rfl rfl)<|m_B rfl<|Lg2 rfl rfl rfl (q0d (v:=.int _ _) rfl)<|Lg2 rfl rfl rfl (q9e rfl rfl (by omega))<|Ls (q0p (v:=.bool _) rfl rfl)<|q0c<|tn<|q0q rfl<|q0o<|tn<|q0b ?_);apply q1r 5 (by kernel_rfl);((with_reducible apply q7w (F:=z2i w5));(exact fun _=>rfl);(exact fun _=>rfl);(exact fun r w hA hH=>(gkinds w).mono fun e w' ⟨q,h1,h2,b,M,g,h3,_,h5,h6,_,h7,h8⟩=>⟨q,h1,h2,b,M,g,h3,h5,h6,h7,h8⟩);(exact fun i u w w' hi ht hR h=>h.ext hR));(apply DW_x (fun r w hA hH=>(q0g rfl).trans rfl);apply DW_x (fun r w hA hH=>(X_ld rfl (B2.ext hA) rfl).trans rfl));with_reducible apply DW_d (F:=fun _ u w'=>z2l 1 w5 u w')
  exact fun r w hA hH=>(by
    obtain ⟨b,M,g,h1,h2,h3,h4,h5⟩:z2i w5 (r 0) w:=hH 0 rfl
    exact ⟨_,_,X_look1 (e:=224) kind_ok h1 rfl h2 (by decide) (by rw [h3]),Ext.refl w,by unfold z2l;rw [if_pos rfl];exact ⟨g,rfl,h4⟩⟩)
  exact fun i r u w w' _ _ hR h=>(by
    unfold z2l at h ⊢
    rw [if_pos rfl] at h ⊢
    obtain ⟨g,h1,h2⟩:=h
    exact ⟨g,h1,h2.ext hR⟩)
  exact fun _ _=>rfl;apply z1n (w0:=w5) (fun w hA=>hA.size);((with_reducible exact q2e);(exact rfl);(repeat (first | exact .inr (.inr (fun _ _=>by with_reducible rfl)) | (refine And.intro ?_ ?_) | exact .inr (.inl rfl) | exact .inl (by decide +kernel) | exact trivial | exact .inr (.inr (fun _ _=>rfl))));(try dsimp only [Nat.reduceAdd]));intro r w6 E6 H6;have h3:z2l 1 w5 (r 3) w6:=H6 3;obtain ⟨g6,e6,hg6,B6⟩:NewF w5 224 _ (r 4) w6:=H6 4;generalize r 3=u3 at *;generalize r 4=u4 at *;subst e6;unfold z2l at h3;rw [if_pos rfl] at h3;obtain ⟨gm,rfl,Bm⟩:=h3;have B2:=B2.ext E6;have B4:=B4.ext E6;have E26:=E25.trans E6;have h2s:=E2.size;have h4s:=E4.size;have h5s:=E5.size;have g4l:=q2x B4;refine q0m (l:=[.int .i64 1,.bool false,.func (.func 306) #[] #[.pointer (some ⟨gm,0,none⟩)]]) rfl rfl rfl ?_ B6 rfl ?_
  · intro v hv;simp at hv;rcases hv with rfl | rfl | rfl <;> rfl
  intro w7 B7 hg7 hs7;have Bm7:=Bm.grown hg7 (by intro h;cases h;exact Bm.ne_ B6 (by decide) rfl);have B2:=B2.grown hg7 (by intro h;cases h;omega);have B4:=B4.grown hg7 (by intro h;cases h;omega);have E27:=E26.then hg7 fun q h=>by cases h;omega
  (refine q0c<|tn<|q0b<|q0b<|q0a<|Ls (q0g rfl)<|Ls (X_ld rfl B7 rfl)<|m_B rfl<|Lo2 rfl rfl rfl rfl<|Lo2 rfl rfl rfl rfl<|Lo2 rfl rfl rfl rfl<|Lo2 rfl rfl rfl rfl<|Ls (q0p (v:=.bool _) rfl rfl)<|q0c<|tn<|q0q rfl<|q0o<|tn<|q0b<|q0a<|Ls (q0g rfl)<|Ls (X_ld rfl B7 rfl) ?_);(refine Ls (q2o rfl B2 rfl)<|m_I rfl ?_);refine q6k (vl:=[.agg (qC 1 0 0 v).toArray,.int .i64 0]) rfl (gmom1 lo hi gm v w7 (hw.ext E27) (hF.ext E27) Bm7) rfl ?_;rintro e w8 ⟨u,rfl,hu,E8⟩;refine ⟨_,rfl,?_⟩;have B4:=B4.ext E8;have E28:=E27.trans E8;(refine m_T rfl<|Ls (q0u rfl rfl)<|Ls (q0u rfl rfl)<|Ls (q0e (v:=u) rfl)<|a_B rfl<|q0c<|tn<|q0b<|q0b<|q0a<|m_B rfl<|Ls (q2d rfl)<|q0c<|tn<|q0q rfl<|q0o<|tn<|q0b<|q0a<|Ls (q0d (v:=u) rfl) ?_);skip;refine Ls (q1x (r:=[(0,.tmp 45)]) (zs':=[[u]]) (Parts.cons (v:=u) (c:=[u]) (z:=[.slice none 0 0]) rfl (q3o hu) rfl rfl (Parts.nil _))) ?_;refine q0m (l:=[u]) rfl rfl rfl (fun v hv=>by rw [List.mem_singleton.1 hv];exact hu) B4 rfl ?_;intro w9 B9 hg9 hs9;(refine a_I rfl<|q0c<|tn<|q0r ?_);refine q1h rfl rfl (Res.cellA inferInstance rfl (B9.range (o:=0) (fun j u h=>by rw [Nat.zero_add];exact h)) rfl (Res.tmp rfl .nil)) ?_;exact ⟨u,rfl,hu,E28.then hg9 fun q h=>by cases h;omega⟩
set_option maxRecDepth 100000 in
set_option maxHeartbeats 2000000 in
theorem gcheckB (lo hi:Nat) (v:Value) (w:World) (hw:Wd w) (hF:q7v w lo hi v [[]]) :
    Calls Tryz.prog 102 #[.agg (qC 4 3 0 v).toArray,.int .i64 0] w fun e w'=>e=.returned (.tuple #[.agg #[.slice none 0 0],.int .i64 140])∧Ext w w':=by
  refine q0l Tryz.func102 rfl Tryz.ntmps102 rfl ?_;have hv:=hF.cell;(refine q0b<|q0a ?_);refine q3t (l:=qC 4 3 0 v) rfl ?_;intro g2 w2 B2 hg2 E2 hs2;refine q0z ?_;intro g4 w4 B4 hg4 E4 hs4;have B2:=B2.ext E4;have E24:=E2.trans E4;(refine a_I rfl<|q0c<|tn<|q0b<|q0b<|q0a<|Ls (q2o rfl B2 rfl) ?_);refine L_fn (gvalid ⟨4,3,0,[[]]⟩ v lo hi w4 (hF.ext E24) (by decide)) rfl ?_;rintro e w5 ⟨rfl,E5⟩;refine ⟨_,rfl,?_⟩;rw [show decide (Qy.OkI ⟨4,3,0,[[]]⟩)=true from by decide];have B2:=B2.ext E5;have B4:=B4.ext E5;have E25:=E24.trans E5;(refine Ls (q2d rfl)<|m_B rfl<|Lg2 rfl rfl rfl (q0d (v:=.int _ _) rfl)<|Lg2 rfl rfl rfl (q3e rfl rfl (by omega))<|Ls (q0p (v:=.bool _) rfl rfl)<|m_B rfl<|Lg2 rfl rfl rfl (q0d (v:=.int _ _) rfl)<|Lg2 rfl rfl rfl (q9e rfl rfl (by omega))<|Ls (q0p (v:=.bool _) rfl rfl)<|q0c<|tn<|q0q rfl<|q0o<|tn<|q0b ?_);apply q1r 5 (by kernel_rfl);((with_reducible apply q7w (F:=z2i w5));(exact fun _=>rfl);(exact fun _=>rfl);(exact fun r w hA hH=>(gkinds w).mono fun e w' ⟨q,h1,h2,b,M,g,h3,_,h5,h6,_,h7,h8⟩=>⟨q,h1,h2,b,M,g,h3,h5,h6,h7,h8⟩);(exact fun i u w w' hi ht hR h=>h.ext hR));(apply DW_x (fun r w hA hH=>(q0g rfl).trans rfl);apply DW_x (fun r w hA hH=>(X_ld rfl (B2.ext hA) rfl).trans rfl));with_reducible apply DW_d (F:=fun _ u w'=>z2l 4 w5 u w')
  exact fun r w hA hH=>(by
    obtain ⟨b,M,g,h1,h2,h3,h4,h5⟩:z2i w5 (r 0) w:=hH 0 rfl
    exact ⟨_,_,X_look1 (e:=224) kind_ok h1 rfl h2 (by decide) (by rw [h5]),Ext.refl w,by unfold z2l;rw [if_neg (by decide)];rfl⟩)
  exact fun i r u w w' _ _ hR h=>(by
    unfold z2l at h ⊢
    rw [if_neg (by decide)] at h ⊢
    exact h)
  exact fun _ _=>rfl;apply z1n (w0:=w5) (fun w hA=>hA.size);((with_reducible exact q2e);(exact rfl);(repeat (first | exact .inr (.inr (fun _ _=>by with_reducible rfl)) | (refine And.intro ?_ ?_) | exact .inr (.inl rfl) | exact .inl (by decide +kernel) | exact trivial | exact .inr (.inr (fun _ _=>rfl))));(try dsimp only [Nat.reduceAdd]));intro r w6 E6 H6;have h3:z2l 4 w5 (r 3) w6:=H6 3;obtain ⟨g6,e6,hg6,B6⟩:NewF w5 224 _ (r 4) w6:=H6 4;generalize r 3=u3 at *;generalize r 4=u4 at *;subst e6;unfold z2l at h3;rw [if_neg (by decide)] at h3;subst h3;have B2:=B2.ext E6;have B4:=B4.ext E6;have E26:=E25.trans E6;have h2s:=E2.size;have h4s:=E4.size;have h5s:=E5.size;have g4l:=q2x B4;refine q0m (l:=[.int .i64 16,.bool true,.func (.func 214) #[] #[]]) rfl rfl rfl ?_ B6 rfl ?_
  · intro v hv;simp at hv;rcases hv with rfl | rfl | rfl <;> rfl
  intro w7 B7 hg7 hs7;have B2:=B2.grown hg7 (by intro h;cases h;omega);have B4:=B4.grown hg7 (by intro h;cases h;omega);have E27:=E26.then hg7 fun q h=>by cases h;omega
  (refine q0c<|tn<|q0b<|q0b<|q0a<|Ls (q0g rfl)<|Ls (X_ld rfl B7 rfl)<|m_B rfl<|Lg2 rfl rfl rfl (q0g rfl)<|Lg2 rfl rfl rfl (X_ld rfl B2 rfl) ?_);refine q2h rfl rfl rfl ?_;refine L_fn (gbits 3 (by decide) w7 (hw.ext E27)) rfl ?_;rintro e w8 ⟨rfl,E8⟩;refine ⟨_,rfl,?_⟩;have B4:=B4.ext E8;have E28:=E27.trans E8;have hwid:((wid 3:Nat):Int)=8:=rfl;rw [hwid];(refine Lg2 rfl rfl rfl (z3d rfl rfl (by omega))<|Ls (q0k (v:=.bool _) rfl rfl)<|q0c<|tn<|q0v rfl<|q0b<|q0a ?_);refine Ls (q1x (r:=[]) (Parts.nil _)) ?_;refine q0m (l:=[.slice none 0 0]) rfl rfl rfl (fun v hv=>by rw [List.mem_singleton.1 hv];rfl) B4 rfl ?_;intro w9 B9 hg9 hs9;(refine a_I rfl<|q0c<|tn<|q0r<|tr ?_);refine q1h rfl rfl (Res.cellA inferInstance rfl (B9.range (o:=0) (fun j u h=>by rw [Nat.zero_add];exact h)) rfl (Res.tmp rfl .nil)) ?_;exact ⟨rfl,E28.then hg9 fun q h=>by cases h;omega⟩
abbrev strZ:List Value:=[.slice none 0 0,.slice none 0 0]
abbrev zdat:List Value:=[[.slice none 0 0],[.slice none 0 0],([.int .i64 0]++[.int .i64 0]++[.int .i64 0]++[.int .i64 0]),(List.replicate 32 [.int .u8 0]).flatten].flatten
theorem q6t:∀ v∈zdat,v.oneCell'=true:=by
  have h:(zdat.all fun v=>v.oneCell')=true:=by decide
  exact List.all_eq_true.1 h
set_option maxRecDepth 100000 in
set_option maxHeartbeats 1000000 in
theorem gload1 (cs:List Value) (lg:Int) (h:lg < 0∨11 < lg) (w:World):Calls Tryz.prog 65 #[.agg cs.toArray,.int .i64 lg] w fun e w'=>e=.returned (.tuple #[.agg zdat.toArray,.int .i64 1])∧Ext w w':=by
  refine q0l Tryz.func65 rfl Tryz.ntmps65 rfl ?_;(refine q0b<|q0a ?_);refine q3t (l:=cs) rfl ?_;intro g2 w2 B2 hg2 E2 hs2;refine q0z ?_;intro g4 w4 B4 hg4 E4 hs4;rcases h with h | h
  · (refine a_I rfl<|q0c<|tn<|q0b<|q0b<|q0a<|m_I rfl<|Ls (q2p rfl rfl (by omega))<|m_B rfl<|Lo2 rfl rfl rfl rfl<|Lo2 rfl rfl rfl rfl<|Ls (q0k (v:=.bool _) rfl rfl)<|q0c<|tn<|q0v rfl<|q0b<|q0a ?_);refine Ls (q1x (r:=[]) (Parts.nil _)) ?_;refine q0m (l:=zdat) rfl rfl rfl q6t B4 rfl ?_;intro w5 B5 hg5 hs5;(refine a_I rfl<|q0c<|tn<|q0r<|tr ?_);refine q1h rfl rfl (Res.cellA inferInstance rfl (B5.range (o:=0) (fun j u h=>by rw [Nat.zero_add];exact h)) rfl (Res.tmp rfl .nil)) ?_;exact ⟨rfl,(E2.trans E4).then hg5 fun q h=>by cases h;omega⟩
  · (refine a_I rfl<|q0c<|tn<|q0b<|q0b<|q0a<|m_I rfl<|Ls (q3e rfl rfl (by omega))<|m_B rfl<|Lg2 rfl rfl rfl (q0d (v:=.int _ _) rfl)<|Lg2 rfl rfl rfl (z3d rfl rfl (by omega))<|Ls (q0p (v:=.bool _) rfl rfl)<|q0c<|tn<|q0v rfl<|q0b<|q0a ?_);refine Ls (q1x (r:=[]) (Parts.nil _)) ?_;refine q0m (l:=zdat) rfl rfl rfl q6t B4 rfl ?_;intro w5 B5 hg5 hs5;(refine a_I rfl<|q0c<|tn<|q0r<|tr ?_);refine q1h rfl rfl (Res.cellA inferInstance rfl (B5.range (o:=0) (fun j u h=>by rw [Nat.zero_add];exact h)) rfl (Res.tmp rfl .nil)) ?_;exact ⟨rfl,(E2.trans E4).then hg5 fun q h=>by cases h;omega⟩
set_option maxRecDepth 100000 in
set_option maxHeartbeats 1000000 in
theorem gcommit1 (w:World):Calls Tryz.prog 14 #[.agg strZ.toArray,.int .i64 12] w fun e w'=>∃ y:List Value,y.length=32∧(∀ v∈y,v.oneCell'=true)∧e=.returned (.tuple #[.agg y.toArray,.int .i64 1])∧Ext w w':=by
  refine q0l Tryz.func14 rfl Tryz.ntmps14 rfl ?_;(refine q0b<|q0a ?_);refine q3t (l:=strZ) rfl ?_;intro g2 w2 B2 hg2 E2 hs2;refine q0z ?_;intro g4 w4 B4 hg4 E4 hs4;have B2:=B2.ext E4;have E24:=E2.trans E4;(refine a_I rfl<|q0c<|tn<|q0b<|q0a<|Ls (q2o rfl B2 rfl)<|m_I rfl ?_);refine L_fn (gload1 strZ 12 (.inr (by decide)) w4) rfl ?_;rintro e w5 ⟨rfl,E5⟩;refine ⟨_,rfl,?_⟩;(refine m_T rfl<|Ls (q0u rfl rfl)<|Ls (q0u rfl rfl) ?_);refine q0z ?_;intro g6 w6 B6 hg6 E6 hs6;refine q0m (l:=zdat) rfl rfl rfl q6t B6 rfl ?_;intro w7 B7 hg7 hs7;have h2s:=E2.size;have h4s:=E4.size;have h5s:=E5.size;have B4:=((B4.ext E5).ext E6).grown hg7 (by intro h;cases h;omega);(refine a_I rfl<|q0c<|tn<|q0b<|q0a<|Ls (q0g rfl)<|Ls (q4p (l:=(zdat.drop 6).take 32) rfl B7 rfl rfl)<|m_I rfl ?_);refine q0m (l:=(zdat.drop 6).take 32) rfl rfl rfl (fun v hv=>q6t v (List.mem_of_mem_drop (List.mem_of_mem_take hv))) B4 rfl ?_;intro w8 B8 hg8 hs8;(refine a_I rfl<|q0c<|tn<|q0r ?_);refine q1h rfl rfl (Res.cellA inferInstance rfl (B8.range (o:=0) (fun j u h=>by rw [Nat.zero_add];exact h)) rfl (Res.tmp rfl .nil)) ?_;exact ⟨_,rfl,fun v hv=>q6t v (List.mem_of_mem_drop (List.mem_of_mem_take hv)),rfl,(((E24.trans E5).trans E6).then hg7 fun q h=>by cases h;omega).then hg8 fun q h=>by cases h;omega⟩
structure Wx (w:World):Prop where
  t:Tabs w
  d:Wd w
theorem Wx.ext {w w':World} (h:Wx w) (E:Ext w w'):Wx w':=⟨h.t.ext E,h.d.ext E⟩
def PrE (x:Nat) (w:World) (e:Ending) (w':World):Prop:=e=.returned (.tuple #[.agg zerC.toArray,.int .i64 (x:Nat)])∧Ext w w'
set_option maxRecDepth 100000 in
set_option maxHeartbeats 4000000 in
theorem gproveP (s:ByteArray) (hs:s.size≤100000) (lg:Int) (o x:Nat) (hx:x ≠ 0) (hp:Qy.parse (sb s)=(Qy.q0,o,x)) (w:World) (hw:Wx w):Calls Tryz.prog 66 #[.string s,.agg strZ.toArray,.int .i64 lg] w (PrE x w):=by
  refine q0l Tryz.func66 rfl Tryz.ntmps66 rfl ?_;(refine q0b<|q0a ?_);refine q3t (l:=strZ) rfl ?_;intro g4 w4 B4 hg4 E4 hs4;refine q0z ?_;intro g6 w6 B6 hg6 E6 hs6;have B4:=B4.ext E6;have E06:=E4.trans E6;(refine a_I rfl<|q0c<|tn<|q0b<|q0a<|m_R rfl ?_);refine L_fn (gparse s hs w6 (hw.ext E06).t) rfl ?_;rintro e w7 ⟨v,rfl,E7,F7⟩;refine ⟨_,rfl,?_⟩;rw [hp] at F7 ⊢;have hv:=F7.cell;have h4s:=E4.size;have h6s:=E6.size;have h7s:=E7.size;dsimp only [parV];(refine m_T rfl<|Ls (q0u rfl rfl)<|Ls (q0u rfl rfl)<|Ls (q0u rfl rfl) ?_);refine q0z ?_;intro g8 w8 B8 hg8 E8 hs8;refine q0m (size:=4) (l:=qry Qy.q0 v) rfl rfl rfl (q5o hv) B8 rfl ?_;intro w9 B9 hg9 hs9;have E09:=((E06.trans E7).trans E8).then hg9 fun q h=>by cases h;omega
  have B6:=((B6.ext E7).ext E8).grown hg9 (by intro h;cases h;omega);have B4:=((B4.ext E7).ext E8).grown hg9 (by intro h;cases h;omega);(refine a_I rfl<|a_I rfl<|q0c<|tn<|q0b<|q0b<|q0a<|m_I rfl<|Ls (q4d rfl rfl (by omega))<|q0c<|tn<|q0v rfl<|q0b<|q0a ?_);refine Ls (q1x (r:=[]) (Parts.nil _)) ?_;(refine m_I rfl ?_);refine q0m (l:=zerC) rfl rfl rfl (q2c.one (N:=fun _=>True) (w:=w) q2v) B6 rfl ?_;intro w20 B20 hg20 hs20;(refine a_I rfl<|q0c<|tn<|q0r<|tr ?_);refine q1h rfl rfl (Res.cellA inferInstance rfl (B20.range (o:=0) (fun j u h=>by rw [Nat.zero_add];exact h)) rfl (Res.tmp rfl .nil)) ?_;exact ⟨rfl,E09.then hg20 fun q h=>by cases h;omega⟩
set_option maxRecDepth 100000 in
set_option maxHeartbeats 4000000 in
theorem gproveA (s:ByteArray) (hs:s.size≤100000) (lg:Int) (hl:lg < 0∨11 < lg) (hp:Qy.parse (sb s)=(⟨1,0,0,[[]]⟩,0,0)) (w:World) (hw:Wx w):Calls Tryz.prog 66 #[.string s,.agg strZ.toArray,.int .i64 lg] w (PrE 1 w):=by
  refine q0l Tryz.func66 rfl Tryz.ntmps66 rfl ?_;(refine q0b<|q0a ?_);refine q3t (l:=strZ) rfl ?_;intro g4 w4 B4 hg4 E4 hs4;refine q0z ?_;intro g6 w6 B6 hg6 E6 hs6;have B4:=B4.ext E6;have E06:=E4.trans E6;(refine a_I rfl<|q0c<|tn<|q0b<|q0a<|m_R rfl ?_);refine L_fn (gparse s hs w6 (hw.ext E06).t) rfl ?_;rintro e w7 ⟨v,rfl,E7,F7⟩;refine ⟨_,rfl,?_⟩;rw [hp] at F7 ⊢;have hv:=F7.cell;have h4s:=E4.size;have h6s:=E6.size;have h7s:=E7.size;dsimp only [parV];(refine m_T rfl<|Ls (q0u rfl rfl)<|Ls (q0u rfl rfl)<|Ls (q0u rfl rfl) ?_);refine q0z ?_;intro g8 w8 B8 hg8 E8 hs8;refine q0m (size:=4) (l:=qry ⟨1,0,0,[[]]⟩ v) rfl rfl rfl (q5o hv) B8 rfl ?_;intro w9 B9 hg9 hs9;have E09:=((E06.trans E7).trans E8).then hg9 fun q h=>by cases h;omega
  have B6:=((B6.ext E7).ext E8).grown hg9 (by intro h;cases h;omega);have B4:=((B4.ext E7).ext E8).grown hg9 (by intro h;cases h;omega);have F9:=(F7.ext E8).grown hg9 fun g h=>by cases h;omega
  (refine a_I rfl<|a_I rfl<|q0c<|tn<|q0b<|q0b<|q0a<|m_I rfl<|Ls (q3g rfl rfl (by omega))<|q0c<|tn<|q0q rfl<|q0o<|tn<|q0b<|q0b<|q0a<|Ls (q2o rfl B9 rfl)<|Ls (q0g rfl)<|Ls (X_ld rfl B4 rfl)<|Ls (q0h rfl) ?_);refine L_fn (gcheckA w6.heap.size w7.heap.size v w9 (hw.ext E09).d F9) rfl ?_;rintro e w10 ⟨u,rfl,hu,E10⟩;refine ⟨_,rfl,?_⟩;(refine m_T rfl<|Ls (q0u rfl rfl)<|Ls (q0u rfl rfl) ?_);refine q0z ?_;intro g11 w11 B11 hg11 E11 hs11;refine q0m (l:=[u]) rfl rfl rfl (fun v hv=>by rw [List.mem_singleton.1 hv];exact hu) B11 rfl ?_;intro w12 B12 hg12 hs12;have h9s:=hg9.size;have h10s:=E10.size;have B6:=((B6.ext E10).ext E11).grown hg12 (by intro h;cases h;omega);have B4:=((B4.ext E10).ext E11).grown hg12 (by intro h;cases h;omega);have E012:=((E09.trans E10).trans E11).then hg12 fun q h=>by cases h;omega
  (refine a_I rfl<|q0c<|tn<|q0b<|q0a<|m_I rfl<|Ls (q3g rfl rfl (by omega))<|q0c<|tn<|q0q rfl<|q0o<|tn<|q0b<|q0a<|Ls (q2o rfl B4 rfl)<|m_I rfl ?_);refine L_fn (gload1 strZ lg hl w12) rfl ?_;rintro e w13 ⟨rfl,E13⟩;refine ⟨_,rfl,?_⟩;(refine m_T rfl<|Ls (q0u rfl rfl)<|Ls (q0u rfl rfl) ?_);refine q0z ?_;intro g14 w14 B14 hg14 E14 hs14;refine q0m (l:=zdat) rfl rfl rfl q6t B14 rfl ?_;intro w15 B15 hg15 hs15;have h12s:=hg12.size;have h13s:=E13.size;have B6:=((B6.ext E13).ext E14).grown hg15 (by intro h;cases h;omega);have E015:=((E012.trans E13).trans E14).then hg15 fun q h=>by cases h;omega
  (refine a_I rfl<|q0c<|tn<|q0b<|q0b<|q0a<|m_I rfl<|Ls (q4d rfl rfl (by omega))<|q0c<|tn<|q0v rfl<|q0b<|q0a ?_);refine Ls (q1x (r:=[]) (Parts.nil _)) ?_;(refine m_I rfl ?_);refine q0m (l:=zerC) rfl rfl rfl (q2c.one (N:=fun _=>True) (w:=w) q2v) B6 rfl ?_;intro w20 B20 hg20 hs20;(refine a_I rfl<|q0c<|tn<|q0r<|tr ?_);refine q1h rfl rfl (Res.cellA inferInstance rfl (B20.range (o:=0) (fun j u h=>by rw [Nat.zero_add];exact h)) rfl (Res.tmp rfl .nil)) ?_;exact ⟨rfl,E015.then hg20 fun q h=>by cases h;omega⟩
set_option maxRecDepth 100000 in
set_option maxHeartbeats 4000000 in
theorem gproveB (s:ByteArray) (hs:s.size≤100000) (lg:Int) (hp:Qy.parse (sb s)=(⟨4,3,0,[[]]⟩,0,0)) (w:World) (hw:Wx w):Calls Tryz.prog 66 #[.string s,.agg strZ.toArray,.int .i64 lg] w (PrE 140 w):=by
  refine q0l Tryz.func66 rfl Tryz.ntmps66 rfl ?_;(refine q0b<|q0a ?_);refine q3t (l:=strZ) rfl ?_;intro g4 w4 B4 hg4 E4 hs4;refine q0z ?_;intro g6 w6 B6 hg6 E6 hs6;have B4:=B4.ext E6;have E06:=E4.trans E6;(refine a_I rfl<|q0c<|tn<|q0b<|q0a<|m_R rfl ?_);refine L_fn (gparse s hs w6 (hw.ext E06).t) rfl ?_;rintro e w7 ⟨v,rfl,E7,F7⟩;refine ⟨_,rfl,?_⟩;rw [hp] at F7 ⊢;have hv:=F7.cell;have h4s:=E4.size;have h6s:=E6.size;have h7s:=E7.size;dsimp only [parV];(refine m_T rfl<|Ls (q0u rfl rfl)<|Ls (q0u rfl rfl)<|Ls (q0u rfl rfl) ?_);refine q0z ?_;intro g8 w8 B8 hg8 E8 hs8;refine q0m (size:=4) (l:=qry ⟨4,3,0,[[]]⟩ v) rfl rfl rfl (q5o hv) B8 rfl ?_;intro w9 B9 hg9 hs9;have E09:=((E06.trans E7).trans E8).then hg9 fun q h=>by cases h;omega
  have B6:=((B6.ext E7).ext E8).grown hg9 (by intro h;cases h;omega);have B4:=((B4.ext E7).ext E8).grown hg9 (by intro h;cases h;omega);have F9:=(F7.ext E8).grown hg9 fun g h=>by cases h;omega
  (refine a_I rfl<|a_I rfl<|q0c<|tn<|q0b<|q0b<|q0a<|m_I rfl<|Ls (q3g rfl rfl (by omega))<|q0c<|tn<|q0q rfl<|q0o<|tn<|q0b<|q0b<|q0a<|Ls (q2o rfl B9 rfl)<|Ls (q0g rfl)<|Ls (X_ld rfl B4 rfl)<|Ls (q0h rfl) ?_);refine L_fn (gcheckB w6.heap.size w7.heap.size v w9 (hw.ext E09).d F9) rfl ?_;rintro e w10 ⟨rfl,E10⟩;refine ⟨_,rfl,?_⟩;(refine m_T rfl<|Ls (q0u rfl rfl)<|Ls (q0u rfl rfl) ?_);refine q0z ?_;intro g11 w11 B11 hg11 E11 hs11;refine q0m (l:=[.slice none 0 0]) rfl rfl rfl (fun v hv=>by rw [List.mem_singleton.1 hv];rfl) B11 rfl ?_;intro w12 B12 hg12 hs12;have h9s:=hg9.size;have h10s:=E10.size;have B6:=((B6.ext E10).ext E11).grown hg12 (by intro h;cases h;omega);have E012:=((E09.trans E10).trans E11).then hg12 fun q h=>by cases h;omega
  (refine a_I rfl<|q0c<|tn<|q0b<|q0a<|m_I rfl<|Ls (q4d rfl rfl (by omega))<|q0c<|tn<|q0v rfl<|q0b<|q0a ?_);refine Ls (q1x (r:=[]) (Parts.nil _)) ?_;(refine m_I rfl ?_);refine q0m (l:=zerC) rfl rfl rfl (q2c.one (N:=fun _=>True) (w:=w) q2v) B6 rfl ?_;intro w20 B20 hg20 hs20;(refine a_I rfl<|q0c<|tn<|q0r<|tr ?_);refine q1h rfl rfl (Res.cellA inferInstance rfl (B20.range (o:=0) (fun j u h=>by rw [Nat.zero_add];exact h)) rfl (Res.tmp rfl .nil)) ?_;exact ⟨rfl,E012.then hg20 fun q h=>by cases h;omega⟩
end Go.Proofs.YtbolofkandcnlaaGreatDoor
namespace Go.Proofs.YtbolofkandcnlaaGreatDoor
open Go.RowKit Go.Proofs.K Go.ChangeShapes Go.WideShapes Go.ChangeAt
theorem own:ownKnob Tryz.prog.godebug=none:=by kernel_rfl
theorem laidOut:laidOutB Tryz.prog=true:=by kernel_rfl
theorem gPw:Tryz.prog.globalNamed "internal/strconv.uint64pow10"=some 6:=by kernel_rfl
theorem gPt:(Tryz.prog.globals[6]?).map (·.type)=some 549:=by kernel_rfl
theorem cP:Tryz.prog.cellsOf 549=20:=by kernel_rfl
theorem c64:Tryz.prog.cellsOf 32=1:=by kernel_rfl
theorem gEr:Tryz.prog.globalNamed "strconv.ErrRange"=some 8:=by kernel_rfl
theorem gEt:(Tryz.prog.globals[8]?).map (·.type)=some 378:=by kernel_rfl
theorem gWd:Tryz.prog.globalNamed "attestor/typecheck.widths"=some 2:=by kernel_rfl
theorem gWt:(Tryz.prog.globals[2]?).map (·.type)=some 331:=by kernel_rfl
def laids:List (String × DataW Unit):=[("math/bits.deBruijn32tab",Rows.laid_math_bits_deBruijn32tab), ("math/bits.deBruijn64tab",Rows.laid_math_bits_deBruijn64tab), ("internal/strconv.uint64pow10",Rows.laid_internal_strconv_uint64pow10), ("strconv.ErrRange",Rows.laid_strconv_ErrRange), ("strconv.ErrSyntax",Rows.laid_strconv_ErrSyntax), ("attestor/mle.one",Rows.laid_attestor_mle_one), ("attestor/sha256.constants",Rows.laid_attestor_sha256_constants), ("attestor/sha256.initial",Rows.laid_attestor_sha256_initial), ("attestor/commit.mixed",Rows.laid_attestor_commit_mixed), ("attestor/typecheck.widths",Rows.laid_attestor_typecheck_widths)]
theorem pow_laid:(Rows.laid_internal_strconv_uint64pow10:DataW Unit)=Go.Lib.tabData .u64 Go.Lib.pow10Tab:=by kernel_rfl
theorem iface_cell {H:Type} {enc:TypeId × Value→H} {P:Program} {W:World} {b:Nat} {sp:Nat→Bool} {fuel:Nat} {t:TypeId} {cs:List Value} {name:String} {d:DataW H} {p:List MemPlace} (hu:∃ ms,P.underlying t=some (.interface ms))
    (h:DataW.trod enc P W b sp false fuel t cs=some (.iface name d,p)):∃ te pe,cs=[.iface te pe]:=by
  obtain ⟨ms,hu⟩:=hu;cases fuel with
  | zero=>simp [DataW.trod] at h
  | succ n =>
    unfold DataW.trod at h;rw [hu] at h;split at h <;> first | exact ⟨_,_,rfl⟩ | simp_all
theorem wid_at {H:Type} (a:Nat) (ha:a < 4) (z:DataW H):(Rows.laid_attestor_typecheck_widths:DataW H).atKey (.int .i64 (a:Nat)) z=.lit (.int .i64 (wid a:Nat)):=by
  match a,ha with
  | 0,_=>rfl
  | 1,_=>rfl
  | 2,_=>rfl
  | 3,_=>rfl
theorem key_wf (a:Nat) (ha:a < 4):(Lit.int .i64 (a:Nat)).wf=true:=by
  match a,ha with
  | 0,_=>rfl
  | 1,_=>rfl
  | 2,_=>rfl
  | 3,_=>rfl
set_option maxRecDepth 100000 in
theorem tabs {W:World} (h:laidMetH Tryz.prog laids W):Wx W:=by
  have h0:laidMet Tryz.prog (laids.filter fun x=>x.2.handleName?.isNone) W:=(show laidMet Tryz.prog _ W∧handlesMet Tryz.prog _ W from h).1;obtain ⟨ps,⟨_,_,_,_,_,_,_,_,_,_,⟨_,_,_,_,_,_,_,_,_,_,⟨g3,t3,cs3,f3,p3,q3,hg3,ht3,hv3,hd3,⟨g4,t4,cs4,f4,p4,q4,hg4,ht4,hv4,hd4,⟨_,_,_,_,_,_,_,_,_,_,⟨_,_,_,_,_,_,_,_,_,_,⟨_,_,_,_,_,_,_,_,_,_,⟨_,_,_,_,_,_,_,_,_,_,⟨g9,t9,cs9,f9,p9,q9,hg9,ht9,hv9,hd9,_,_⟩,_⟩,_⟩,_⟩,_⟩,_⟩,_⟩,_⟩,_⟩,_⟩:=h0;refine ⟨⟨?_,?_⟩,⟨?_⟩⟩
  · obtain rfl:=Option.some.inj (gPw.symm.trans hg3);obtain rfl:=Option.some.inj (gPt.symm.trans ht3);rw [pow_laid] at hd3;unfold Go.Lib.TabIs;rw [hv3,← Go.Lib.cells_of_tab Tryz.underlying549 Tryz.underlying32 c64 cP hd3]
  · obtain rfl:=Option.some.inj (gEr.symm.trans hg4);obtain rfl:=Option.some.inj (gEt.symm.trans ht4);obtain ⟨te,pe,e⟩:=iface_cell ⟨_,Tryz.underlying378⟩ hd4;have h0:=World.var?_cell gEr hv4 0;refine ⟨te,pe,h0.trans ?_⟩;rw [← Array.getElem?_toList,e];rfl
  · obtain rfl:=Option.some.inj (gWd.symm.trans hg9);obtain rfl:=Option.some.inj (gWt.symm.trans ht9);rcases Go.WideElems.open_map Tryz.underlying331 hd9 with ⟨_,hx⟩ | ⟨b,es,clk,n,_,hcs,hb,_,F,hx⟩
    · have:=congrArg Prod.fst hx;cases this
    · have h0:=World.var?_cell gWd hv9 0;rw [← Array.getElem?_toList,hcs] at h0;refine ⟨b,es,clk,h0,hb,fun a ha w' hb'=>?_⟩;have hz:(zeroValue 3).run Tryz.prog w'=.ok (.int .i64 0) w':=(by kernel_rfl);have hat:=wid_at (H:=Unit) a ha;rw [show (Rows.laid_attestor_typecheck_widths:DataW Unit)=_ from congrArg Prod.fst hx] at hat;rcases Go.Maps.fit_look false (Go.Maps.int_keyed Tryz.underlying3) Tryz.underlying331 hz hb' F (Go.Maps.keyOf_int_mk Tryz.underlying3 (key_wf a ha)) with ⟨_,_,h2⟩ | ⟨e0,y,_,_,hr,hy,hk,_⟩
      · have:=(h2 .nil).symm.trans (hat .nil);cases this
      · have hy1:=(hk .nil).symm.trans (hat .nil);have hr:(Instr.lookup 331 (.map (some b)) (.int .i64 (a:Nat)) false).run Tryz.prog w'=.ok e0.val w':=hr;rw [hr];unfold Go.WideElems.elemAt at hy;split at hy
        · rename_i hfm;obtain ⟨m,hc,he,_⟩:=DataW.trod_int Tryz.underlying3 hy;have he:y.1=.lit (.int .i64 m):=congrArg Prod.fst he;rw [he] at hy1;have hm:m=(wid a:Nat):=(by injection hy1 with hy1;injection hy1);have hv:e0.val=.int .i64 m:=by
            cases hev:e0.val with
            | agg l=>rw [hev] at hc hfm;simp [Value.formed,Tryz.underlying3] at hfm
            | _=>rw [hev] at hc;first | (simp [Value.cells] at hc;done) | simpa [Value.cells] using hc
          rw [hv,hm]
        · cases hy
noncomputable def z1x (os:Os):World:=World.doorLaid Tryz.prog 400 os
end Go.Proofs.YtbolofkandcnlaaGreatDoor
namespace Go.Proofs.YtbolofkandcnlaaGreatDoor
open Go.RowKit Go.Proofs.K
set_option maxRecDepth 100000 in
set_option maxHeartbeats 1000000 in
theorem s7same {N M:Nat→Prop} {u v:Value} {xs ys:List Nat} {w:World} (hu:slR 1 (numR .u8) N w [u] xs) (hv:slR 1 (numR .u8) M w [v] ys) :
    Calls Tryz.prog 8 #[u,v] w (q5t (xs=ys) w):=by
  obtain ⟨A1,c1,e,hm1,hm2⟩:=q1o hu;have hm:xs.length≤9223372036854775807:=by unfold maxLen at hm2;omega
  obtain rfl:u=.slice A1 xs.length c1:=by simpa using e
  obtain ⟨A2,c2,e,_,_⟩:=q1o hv;obtain rfl:v=.slice A2 ys.length c2:=by simpa using e
  refine q0l Tryz.func8 rfl Tryz.ntmps8 rfl ?_;by_cases hl:xs.length=ys.length
  · (refine q0b<|q0a<|a_B rfl<|q0c<|tn<|q0b<|q0b<|q0a<|m_S rfl<|Ls (q0h rfl)<|m_S rfl<|Ls (q0h rfl)<|Ls (q3g rfl rfl (by omega))<|q0c<|tn<|q0q rfl<|q0o<|tn<|q0b<|q0b<|q0a<|a_I rfl<|q0c<|tn<|q0j ?_);refine q1k (fun q f w'=>∃ i,q=xs.length - i∧i≤xs.length∧f 0=.slice A1 xs.length c1∧f 1=.slice A2 ys.length c2∧f 5=.int .i64 (i:Nat)∧Ext w w'∧xs.take i=ys.take i) xs.length ?_ ?_
    · exact ⟨0,rfl,by omega,rfl,rfl,rfl,Ext.refl _,rfl⟩
    · rintro q f wr ⟨i,rfl,hi,f0,f1,f5,E,ht⟩;rw [fold f0,fold f1,fold f5];(refine q0b<|q0b<|q0a<|m_I rfl<|m_S rfl<|Ls (q0h rfl)<|Ls (q1w rfl rfl)<|q0c<|tn ?_);refine q1d rfl (fun h=>?_) (fun h=>?_)
      · have hi1:i < xs.length:=(by omega);obtain ⟨a,ha⟩:∃ a,xs[i]?=some a:=⟨_,List.getElem?_eq_getElem hi1⟩;obtain ⟨b,hb⟩:∃ b,ys[i]?=some b:=⟨_,List.getElem?_eq_getElem (by omega)⟩;obtain ⟨b1,o1,k1,y1,e1,_,_,hy1,hR1,hx1⟩:=q2z ((q1j (by decide) (q1y _)).ext hu E) ha;obtain ⟨b2,o2,k2,y2,e2,_,_,hy2,hR2,hx2⟩:=q2z ((q1j (by decide) (q1y _)).ext hv E) hb;cases e1
        cases e2
        obtain rfl:y1=[_]:=hx1;obtain rfl:y2=[_]:=hx2;(refine q0o<|tn<|q0b<|q0j<|q0b ?_);apply q1r 8 (by kernel_rfl);(apply DW_x (fun r w hA hH=>(q0d (v:=.slice _ _ _) rfl).trans rfl);apply DW_x (fun r w hA hH=>(q0d (v:=.int _ _) rfl).trans rfl);apply DW_x (fun r w hA hH=>(q0n rfl rfl (by omega)).trans rfl));((with_reducible apply DW_x);(exact fun r w hA hH=>(q2l rfl (hA.range hR1) (j:=0) rfl rfl).trans rfl));(apply DW_x (fun r w hA hH=>(q0d (v:=.slice _ _ _) rfl).trans rfl);apply DW_x (fun r w hA hH=>(q0d (v:=.int _ _) rfl).trans rfl);apply DW_x (fun r w hA hH=>(q0n rfl rfl (by omega)).trans rfl));((with_reducible apply DW_x);(exact fun r w hA hH=>(q2l rfl (hA.range hR2) (j:=0) rfl rfl).trans rfl));((with_reducible exact q2e);(exact rfl);(repeat (first | exact .inr (.inr (fun _ _=>by with_reducible rfl)) | (refine And.intro ?_ ?_) | exact .inr (.inl rfl) | exact .inl (by decide +kernel) | exact trivial | exact .inr (.inr (fun _ _=>rfl))));(try dsimp only [Nat.reduceAdd]));intro r w4 E4 _;by_cases hab:a=b
        · subst hab;(refine Ls (q3g rfl rfl (by omega))<|q0c<|tn<|q0q rfl<|q0o<|bn<|tn<|q0a<|m_I rfl<|Ls (q1e rfl rfl (by omega))<|a_I rfl<|q0c<|tn ?_);exact ⟨xs.length - (i+1),by omega,i+1,rfl,by omega,rfl,rfl,rfl,E.trans E4,q4w ht ha hb⟩
        · (refine Ls (q4d rfl rfl (by omega))<|q0c<|tn<|q0v rfl<|q0b<|q0a<|a_B rfl<|q0c<|tn<|q0r<|br<|tr<|tr<|br<|tr ?_);exact q0i rfl rfl (v:=.bool false) rfl ⟨false,rfl,⟨(fun h=>by cases h),fun h=>absurd (by rw [h,hb] at ha;exact (Option.some.inj ha).symm) hab⟩,E.trans E4⟩
      · obtain rfl:i=xs.length:=(by omega);(refine q1b<|te<|te<|bx<|tn<|q0b<|q0a<|a_B rfl<|q0c<|tn<|q0r ?_);rw [List.take_of_length_le (Nat.le_refl _),List.take_of_length_le (by omega)] at ht;exact q0i rfl rfl (v:=.bool true) rfl ⟨true,rfl,⟨fun _=>ht,fun _=>rfl⟩,E⟩
  · (refine q0b<|q0a<|a_B rfl<|q0c<|tn<|q0b<|q0b<|q0a<|m_S rfl<|Ls (q0h rfl)<|m_S rfl<|Ls (q0h rfl)<|Ls (q4d rfl rfl (by omega))<|q0c<|tn<|q0v rfl<|q0b<|q0a<|a_B rfl<|q0c<|tn<|q0r<|tr ?_);exact q0i rfl rfl (v:=.bool false) rfl ⟨false,rfl,⟨(fun h=>by cases h),fun h=>absurd (congrArg List.length h) hl⟩,Ext.refl _⟩
set_option maxHeartbeats 1000000 in
theorem joinB (lo hi lo' hi':Nat) (v u:Value) (a b:List Nat) (w:World) (ha:Row w lo hi 1 v a.length (ints .u8 a)) (hb:Row w lo' hi' 1 u b.length (ints .u8 b)) (hl:a.length+b.length≤1000000000) :
    Calls Tryz.prog 15 #[v,u] w fun e w'=>∃ q,e=.returned q∧Ext w w'∧w'.ownsRow w.heap.size 5 1 q (a.length+b.length) (ints .u8 (a++b)):=by
  refine q0l Tryz.func15 rfl Tryz.ntmps15 rfl ?_;(refine q0b<|q0a<|a_S rfl<|q0c<|tn<|q0b<|q0a ?_);refine q5e (size:=1) ?_;intro q1 w1 E1 hs1 o1;(refine Ls (q0d (v:=v) rfl) ?_);refine q1c (v:=q1) (u:=v) rfl rfl o1 (ha.ext E1) q0w (by omega) (by omega) (by omega) ?_;intro q2 w2 o2 g2 b2;have E2:Ext w w2:=E1.then g2 (fun g h=>(o1.lt g h).1);(refine Ls (q0e (v:=q2) rfl)<|q0c<|tn<|q0b<|q0a<|Ls (q0d (v:=q2) rfl)<|Ls (q0d (v:=u) rfl) ?_);refine q1c (v:=q2) (u:=u) rfl rfl o2 (hb.ext E2) q0w (by omega) (by omega) E2.size ?_;intro q3 w3 o3 g3 b3;have E3:Ext w w3:=E2.then g3 (fun g h=>(o2.lt g h).1);(refine Ls (q0e (v:=q3) rfl)<|q0c<|tn<|q0b<|q0a<|Ls (q0d (v:=q3) rfl)<|Ls (q0e (v:=q3) rfl)<|q0c<|tn<|q0r ?_);refine q0i rfl rfl (v:=q3) rfl ?_;refine ⟨q3,rfl,E3,?_⟩;rw [q2i];simpa using o3
theorem q6y:CertE Ce.zero where
  root:=⟨rfl,fun b hb=>by rw [(List.mem_replicate.1 hb).2];decide⟩
  log:=by decide
  sh:=⟨by decide,by decide,by decide,by decide⟩
  q:=fun _ h=>by cases h
  rows:=fun _ h=>by cases h
  ps:=fun _ h=>by cases h
  pz:=fun _ h=>by cases h
  batch:=fun _ h=>by cases h
  v:=⟨by decide,by decide⟩
  orow:=fun _ h=>by cases h
  ornd:=fun _ h=>by cases h
  nodes:=fun _ h=>by cases h
set_option maxRecDepth 100000 in
set_option maxHeartbeats 1000000 in
theorem gfl (s:ByteArray) (lg:Int) (x:Nat) (hp:∀ w,Wx w→Calls Tryz.prog 66 #[.string s,.agg strZ.toArray,.int .i64 lg] w (PrE x w)) (w:World) (hw:Wx w) :
    Calls Tryz.prog 16 #[.string s,.int .i64 lg,.int .i64 (x:Nat)] w fun e w'=>e=.returned (.bool true)∧Ext w w':=by
  refine q0l Tryz.func16 rfl Tryz.ntmps16 rfl ?_;(refine q0b<|q0a<|a_B rfl<|q0c<|tn<|q0b<|q0a<|m_R rfl ?_);refine Ls (q1x (r:=[]) (Parts.nil _)) ?_;(refine m_I rfl ?_);refine L_fn (hp w hw) rfl ?_;rintro e w1 ⟨rfl,E1⟩;refine ⟨_,rfl,?_⟩;(refine m_T rfl<|Ls (q0u rfl rfl)<|Ls (q0u rfl rfl) ?_);refine q0z ?_;intro g2 w2 B2 hg2 E2 hs2;refine q0m (l:=zerC) rfl rfl rfl (q2c.one (N:=fun _=>True) (w:=w) q2v) B2 rfl ?_;intro w3 B3 hg3 hs3;(refine a_I rfl<|q0c<|tn<|q0b<|q0a<|Ls (q2o rfl B3 rfl) ?_);refine Ls (q1x (r:=[]) (Parts.nil _)) ?_;refine L_fn (q5t.t (s22same (N:=fun _=>True) (M:=fun _=>True) (x:=zerC) (y:=zerC) q2v q2v q6y q6y) rfl) rfl ?_;rintro e w4 ⟨rfl,E4⟩;refine ⟨_,rfl,?_⟩;have h1s:=E1.size;have h2s:=E2.size;(refine m_B rfl<|Lg2 rfl rfl rfl (q0d (v:=.int _ _) rfl)<|Lg2 rfl rfl rfl (q0d (v:=.int _ _) rfl)<|Lg2 rfl rfl rfl (q3h rfl rfl (by omega))<|Ls (q0k (v:=.bool _) rfl rfl)<|a_B rfl<|q0c<|tn<|q0r ?_);exact q0i rfl rfl (v:=.bool true) rfl ⟨rfl,((E1.trans E2).then hg3 fun q h=>by cases h;omega).trans E4⟩
end Go.Proofs.YtbolofkandcnlaaGreatDoor
namespace Ce
def okE (e:EE):Prop:=e.1 < pr∧e.2 < pr
def okR (r:List EE):Prop:=r.length < 4294967296∧∀ e∈r,okE e
def okRs (l:List (List EE)):Prop:=l.length < 4294967296∧∀ r∈l,okR r
structure okP (p:LP):Prop where
  r:okRs p.rounds
  l:okE p.left
  t:okE p.right
  n:okR p.line
structure Val (c:Cert):Prop where
  q:c.q.length < 4294967296∧∀ b∈c.q,b < 256
  log:c.log < 4294967296
  root:c.root.length=32∧∀ b∈c.root,b < 256
  sR:c.sR < 4294967296
  sC:c.sC < 4294967296
  sB:c.sB < 4294967296
  sT:c.sT < 4294967296
  sums:c.sums.length < 4294967296∧∀ x∈c.sums,x < 18446744073709551616
  rows:okRs c.rows
  ps:c.ps.length < 4294967296∧∀ p∈c.ps,okP p
  pz:c.pz.length < 4294967296∧∀ p∈c.pz,okP p
  batch:okRs c.batch
  v:okE c.v
  orow:okR c.orow
  ornd:okR c.ornd
  cols:c.cols.length < 4294967296∧∀ r∈c.cols,r.length < 4294967296∧∀ e∈r,e < pr
  nodes:c.nodes.length < 4294967296∧∀ e∈c.nodes,e.length=32∧∀ b∈e,b < 256
theorem okE_c {e:EE} (h:okE e):extC.ok e:=by
  have h1:=h.1;have h2:=h.2;unfold pr at h1 h2;refine ⟨⟨q8c (by show e.1 < 256 ^ 8;omega),q8c (by show e.2 < 256 ^ 8;omega)⟩,?_⟩;show (decide (e.1 < pr) && decide (e.2 < pr))=true;rw [decide_eq_true h.1,decide_eq_true h.2];rfl
theorem okR_c {r:List EE} (h:okR r):roundC.ok r:=⟨h.1,fun e he=>okE_c (h.2 e he)⟩
theorem okRs_c {l:List (List EE)} (h:okRs l):(lst roundC).ok l:=⟨h.1,fun e he=>okR_c (h.2 e he)⟩
theorem okP_c {p:LP} (h:okP p):lpC.ok p:=⟨⟨okRs_c h.r,okE_c h.l,okE_c h.t,okR_c h.n⟩,rfl⟩
theorem num4 {x:Nat} (h:x < 4294967296):(numC 4).ok x:=q8c h
theorem Val.ok {c:Cert} (h:Val c):certC.ok c :=
  ⟨⟨⟨h.q.1,fun b hb=>q8c (by show b < 256 ^ 1;have:=h.q.2 b hb;omega)⟩,num4 h.log,⟨h.root.1,h.root.2⟩,num4 h.sR,num4 h.sC,num4 h.sB,num4 h.sT,⟨h.sums.1,fun x hx=>q8c (h.sums.2 x hx)⟩,okRs_c h.rows,⟨h.ps.1,fun p hp=>okP_c (h.ps.2 p hp)⟩,⟨h.pz.1,fun p hp=>okP_c (h.pz.2 p hp)⟩,okRs_c h.batch,okE_c h.v,okR_c h.orow,okR_c h.ornd,
    ⟨h.cols.1,fun r hr=>⟨(h.cols.2 r hr).1,fun e he=>⟨q8c (by have:=(h.cols.2 r hr).2 e he;unfold pr at this;show e < 256 ^ 8;omega),decide_eq_true ((h.cols.2 r hr).2 e he)⟩⟩⟩,⟨h.nodes.1,fun e he=>⟨(h.nodes.2 e he).1,(h.nodes.2 e he).2⟩⟩⟩,rfl⟩
theorem ok_E {e:EE} (h:extC.ok e):okE e:=by
  have h2:(decide (e.1 < pr) && decide (e.2 < pr))=true:=h.2;simp at h2;exact h2
theorem ok_R {r:List EE} (h:roundC.ok r):okR r:=⟨h.1,fun e he=>ok_E (h.2 e he)⟩
theorem ok_Rs {l:List (List EE)} (h:(lst roundC).ok l):okRs l:=⟨h.1,fun e he=>ok_R (h.2 e he)⟩
theorem ok_P {p:LP} (h:lpC.ok p):okP p:=⟨ok_Rs h.1.1,ok_E h.1.2.1,ok_E h.1.2.2.1,ok_R h.1.2.2.2⟩
theorem Val.of {c:Cert} (h:certC.ok c):Val c:=by
  obtain ⟨⟨h1,h2,h3,h4,h5,h6,h7,h8,h9,h10,h11,h12,h13,h14,h15,h16,h17⟩,_⟩:=h
  exact ⟨⟨h1.1,fun b hb=>numC_lt (h1.2 b hb)⟩,numC_lt h2,⟨h3.1,h3.2⟩,numC_lt h4,numC_lt h5,numC_lt h6,numC_lt h7,⟨h8.1,fun b hb=>numC_lt (h8.2 b hb)⟩,ok_Rs h9,⟨h10.1,fun p hp=>ok_P (h10.2 p hp)⟩,⟨h11.1,fun p hp=>ok_P (h11.2 p hp)⟩,ok_Rs h12,ok_E h13,ok_R h14,ok_R h15,⟨h16.1,fun r hr=>⟨(h16.2 r hr).1,fun e he=>by
    have:decide (e < pr)=true:=((h16.2 r hr).2 e he).2
    simpa using this⟩⟩,⟨h17.1,fun e he=>⟨(h17.2 e he).1,(h17.2 e he).2⟩⟩⟩
end Ce
namespace Go.Proofs.YtbolofkandcnlaaGreatDoor
open Go.RowKit Go.Proofs.K
theorem q5l {e:Nat × Nat} (h:Ce.okE e):E64 e:=by
  obtain ⟨h1,h2⟩:=h;unfold Ce.pr at h1 h2;exact ⟨by omega,by omega⟩
theorem okRd {r:List (Nat × Nat)} (h:Ce.okR r):Rd64 r:=⟨h.1,fun e he=>q5l (h.2 e he)⟩
theorem okLp {p:Ce.LP} (h:Ce.okP p):Lp64 p:=⟨h.r.1,fun r hr=>okRd (h.r.2 r hr),q5l h.l,q5l h.t,okRd h.n⟩
theorem okLpE {p:Ce.LP} (h:Ce.okP p):LpE p:=⟨fun r hr e he=>q5l ((h.r.2 r hr).2 e he),q5l h.l,q5l h.t,fun e he=>q5l (h.n.2 e he)⟩
theorem val64 {c:Ce.Cert} (h:Ce.Val c) (hl:(Ce.certC.w c).length≤99990000):Cert64 c where
  root:=h.root.1
  log:=h.log
  sR:=h.sR
  sC:=h.sC
  sB:=h.sB
  sT:=h.sT
  q:=h.q.1
  sums:=h.sums.1
  rows:=⟨h.rows.1,fun r hr=>okRd (h.rows.2 r hr)⟩
  ps:=⟨h.ps.1,fun p hp=>okLp (h.ps.2 p hp)⟩
  pz:=⟨h.pz.1,fun p hp=>okLp (h.pz.2 p hp)⟩
  batch:=⟨h.batch.1,fun r hr=>okRd (h.batch.2 r hr)⟩
  v:=q5l h.v
  orow:=okRd h.orow
  ornd:=okRd h.ornd
  cols:=⟨h.cols.1,fun r hr=>⟨(h.cols.2 r hr).1,fun e he=>by have:=(h.cols.2 r hr).2 e he;unfold Ce.pr at this;omega⟩⟩
  nodes:=h.nodes.1
  all:=hl
theorem valE {c:Ce.Cert} (h:Ce.Val c):CertE c where
  root:=h.root
  log:=h.log
  sh:=⟨h.sR,h.sC,h.sB,h.sT⟩
  q:=h.q.2
  rows:=fun r hr e he=>q5l ((h.rows.2 r hr).2 e he)
  ps:=fun p hp=>okLpE (h.ps.2 p hp)
  pz:=fun p hp=>okLpE (h.pz.2 p hp)
  batch:=fun r hr e he=>q5l ((h.batch.2 r hr).2 e he)
  v:=q5l h.v
  orow:=fun e he=>q5l (h.orow.2 e he)
  ornd:=fun e he=>q5l (h.ornd.2 e he)
  nodes:=fun e he=>(h.nodes.2 e he).2
theorem DecA.err {l:List Nat} {w w':World} {e:Ending} {k:Nat} (h:DecA l w e w') (hd:Ce.decode l=.err k):∃ y,e=.returned (.tuple #[.agg y.toArray,.int .i64 (k:Nat)])∧Ext w w'∧cerR (fun k=>w.heap.size≤k∧k < w'.heap.size) w' y Ce.zero:=by
  obtain ⟨E,y,c,x,he,hy,hx,hz⟩:=h;rw [hd] at hx;split at hx
  · cases hx
  · rename_i h0;cases hx
    rw [hz h0] at hy;exact ⟨y,he,E,hy⟩
theorem DecA.ok {l:List Nat} {w w':World} {e:Ending} {c:Ce.Cert} (h:DecA l w e w') (hd:Ce.decode l=.ok c):∃ y,e=.returned (.tuple #[.agg y.toArray,.int .i64 0])∧Ext w w'∧cerR (fun k=>w.heap.size≤k∧k < w'.heap.size) w' y c:=by
  obtain ⟨E,y,c',x,he,hy,hx,hz⟩:=h;rw [hd] at hx;split at hx
  · rename_i h0;cases hx
    subst h0;exact ⟨y,he,E,hy⟩
  · cases hx
end Go.Proofs.YtbolofkandcnlaaGreatDoor
namespace Go.Proofs.YtbolofkandcnlaaGreatDoor
open Go.RowKit Go.Proofs.K
set_option maxRecDepth 100000 in
set_option maxHeartbeats 4000000 in
theorem gencode (N:Nat→Prop) (c:Ce.Cert) (qb:ByteArray) (s1 p1 p2 p3 b1 o1 o2 o3 o4:Value) (w:World) (hc:Cert64 c) (hw:CerAt N w c qb s1 p1 p2 p3 b1 o1 o2 o3 o4) :
    Calls Tryz.prog 9 #[.agg (cerC c qb s1 p1 p2 p3 b1 o1 o2 o3 o4).toArray] w fun e w'=>∃ q,e=.returned q∧Ext w w'∧w'.ownsRow w.heap.size 5 1 q (Ce.certC.w c).length (ints .u8 (Ce.certC.w c)):=by
  refine q0l Tryz.func9 rfl Tryz.ntmps9 rfl ?_;have hw:=hw.tight;obtain ⟨C,hC⟩:∃ C,C=cerC c qb s1 p1 p2 p3 b1 o1 o2 o3 o4:=⟨_,rfl⟩;have C0:C[0]?=some (.string qb):=by rw [hC];rfl
  have C1:C[1]?=some (.int .i64 (c.log:Nat)):=by rw [hC];rfl
  have C2:(C.drop 2).take 32=ints .u8 c.root:=by
    rw [hC];show ((ints .u8 c.root++_).take 32)=_;rw [List.take_append_of_le_length (by rw [q0t,hc.root];omega),List.take_of_length_le (by rw [q0t,hc.root];omega)]
  have C34:C[34]?=some (.int .i64 (c.sR:Nat)):=by rw [hC];exact q2u hc.root (j:=0) rfl
  have C35:C[35]?=some (.int .i64 (c.sC:Nat)):=by rw [hC];exact q2u hc.root (j:=1) rfl
  have C36:C[36]?=some (.int .i64 (c.sB:Nat)):=by rw [hC];exact q2u hc.root (j:=2) rfl
  have C37:C[37]?=some (.int .i64 (c.sT:Nat)):=by rw [hC];exact q2u hc.root (j:=3) rfl
  have C38:C[38]?=some s1:=by rw [hC];exact q2u hc.root (j:=4) rfl
  have C39:C[39]?=some p1:=by rw [hC];exact q2u hc.root (j:=5) rfl
  have C40:C[40]?=some p2:=by rw [hC];exact q2u hc.root (j:=6) rfl
  have C41:C[41]?=some p3:=by rw [hC];exact q2u hc.root (j:=7) rfl
  have C42:C[42]?=some b1:=by rw [hC];exact q2u hc.root (j:=8) rfl
  have C45:C[45]?=some o1:=by rw [hC];exact q2u hc.root (j:=11) rfl
  have C46:C[46]?=some o2:=by rw [hC];exact q2u hc.root (j:=12) rfl
  have C47:C[47]?=some o3:=by rw [hC];exact q2u hc.root (j:=13) rfl
  have C48:C[48]?=some o4:=by rw [hC];exact q2u hc.root (j:=14) rfl
  have C43:(C.drop 43).take 2=exC c.v.1 c.v.2:=by
    apply List.ext_getElem?;intro j;rw [List.getElem?_take];match j with
    | 0=>rw [if_pos (by omega),List.getElem?_drop,hC];exact q2u hc.root (j:=9) rfl
    | 1=>rw [if_pos (by omega),List.getElem?_drop,hC];exact q2u hc.root (j:=10) rfl
    | j+2=>rw [if_neg (by omega)];rfl
  rw [← hC];clear hC;(refine q0b<|q0a ?_);refine q3t rfl ?_;intro g1 w1 B1 hg1 E1 hs1;(refine a_S rfl<|q0c<|tn<|q0b<|q0a ?_);refine Ls (q1x (r:=[]) (zs':=[[.slice none 0 0]]) (Parts.nil _)) ?_;refine q3t (l:=[.slice none 0 0]) rfl ?_;intro g2 w2 B2 hg2 E2 hs2;have B1':=B1.ext E2;(refine a_P rfl<|q0c<|tn<|q0b<|q0a<|m_P rfl<|Ls (q0g rfl)<|Ls (X_ld rfl B1' C0) ?_);have hqs:qb.size=c.q.length:=by rw [hw.q,q3j]
  have hq:=hc.q;refine q8k rfl (by unfold maxLen;omega) ?_;intro q3 w3 E3 r3;have hq3:=q2a r3;(refine m_P rfl ?_);refine Ls (q1u (vf:=[ptr g2]) (vc:=[]) rfl rfl) ?_;skip;have hs3:=E3.size;have e3:EncAt w3.heap.size g2 w3 []:=⟨.slice none 0 0,B2.ext E3,⟨rfl,.inl ⟨rfl,rfl⟩⟩⟩;have hN:Far (fun k=>N k∧k < w.heap.size) w3.heap.size g2:=fun q hq=>⟨by omega,by have:=E1.size;have:=E2.size;omega⟩;have r3':slR 1 (numR .u8) (fun k=>w2.heap.size≤k∧k < w3.heap.size) w3 [q3] c.q:=q8n (by rw [hw.q,q3j];exact RowN.of r3);have hall:=hc.all;rw [cert_w] at hall;simp only [List.length_append,z3t,ext_len,round_len,Ce.byN_len,hc.root] at hall;have hqlt:∀ e∈c.q,e < 256:=by rw [hw.q];exact z0q qb
  have B1'':=B1'.ext E3;have hp2:g2 < w3.heap.size:=e3.lt;have hw3:=hw.ext (E1.trans (E2.trans E3));clear hw;refine L_fn (gslB (q1y _) 32 #[ptr g2] #[] w3.heap.size g2 (fun k=>w2.heap.size≤k∧k < w3.heap.size) Ce.byteC.w c.q q3 [] w3 (fun q hq=>⟨by omega,by omega⟩) (elemB hqlt) r3' hq (by simp only [List.length_nil];omega) (Nat.le_refl _) e3) rfl ?_;rintro e w4 ⟨rfl,e4,k4⟩;refine ⟨_,rfl,?_⟩;obtain ⟨a4,ha4⟩:∃ a,a=[]++(Ce.byN 4 c.q.length++c.q.flatMap Ce.byteC.w):=⟨_,rfl⟩;have hl4:a4.length=4+(c.q.flatMap Ce.byteC.w).length:=by rw [ha4];simp only [List.length_append,List.length_nil,Ce.byN_len,Nat.zero_add]
  rw [← ha4] at e4;have B4:=k4.k.blk B1'' (by omega) (.inr (by decide));have hw4:=hw3.keep k4.k hN;have hs4:=k4.k.size;(refine q0c<|tn<|q0b<|q0a<|m_P rfl<|Ls (q0g rfl)<|Ls (X_ld rfl B4 C1) ?_);refine L_fn (gint w3.heap.size g2 c.log _ w4 hc.log (by omega) k4.k.size e4) rfl ?_;rintro e w5 ⟨rfl,e5,k5⟩;refine ⟨_,rfl,?_⟩;obtain ⟨a5,ha5⟩:∃ a,a=a4++Ce.byN 4 c.log:=⟨_,rfl⟩;have hl5:a5.length=a4.length+4:=by rw [ha5,List.length_append,Ce.byN_len]
  rw [← ha5] at e5;have B5:=k5.k.blk B4 (by omega) (.inr (by decide));have hw5:=hw4.keep k5.k hN;have hs5:=k5.k.size;(refine q0c<|tn<|q0b<|q0a<|m_P rfl<|Ls (q0g rfl)<|Ls (q4p (l:=ints .u8 c.root) rfl B5 C2 (by rw [q0t];exact hc.root)) ?_);refine L_fn (gdigest w3.heap.size g2 c.root _ w5 hc.root (by omega) (Nat.le_trans hs4 hs5) e5) rfl ?_;rintro e w6 ⟨rfl,e6,k6⟩;refine ⟨_,rfl,?_⟩;obtain ⟨a6,ha6⟩:∃ a,a=a5++c.root:=⟨_,rfl⟩;have hl6:a6.length=a5.length+32:=by rw [ha6,List.length_append,hc.root]
  rw [← ha6] at e6;have B6:=k6.k.blk B5 (by omega) (.inr (by decide));have hw6:=hw5.keep k6.k hN;have hs6:=k6.k.size;(refine q0c<|tn<|q0b<|q0b<|q0a<|Ls (q0g rfl)<|Ls (q0g rfl)<|Ls (X_ld rfl B6 C34)<|Ls (q0g rfl)<|Ls (q0g rfl)<|Ls (X_ld rfl B6 C35)<|Ls (q0g rfl)<|Ls (q0g rfl)<|Ls (X_ld rfl B6 C36)<|Ls (q0g rfl)<|Ls (q0g rfl)<|Ls (X_ld rfl B6 C37) ?_);obtain ⟨sh,hsh⟩:∃ sh,sh=[c.sR,c.sC,c.sB,c.sT]:=⟨_,rfl⟩;have hshl:sh.length=4:=by rw [hsh];rfl
  have hsh4:∀ x∈sh,x < 4294967296:=by
    rw [hsh];intro x hx;simp only [List.mem_cons,List.not_mem_nil,or_false] at hx;rcases hx with rfl | rfl | rfl | rfl
    · exact hc.sR
    · exact hc.sC
    · exact hc.sB
    · exact hc.sT
  refine Ls (q6g (z:=[.int .i64 0]) (zs':=[[.int .i64 (c.sR:Nat)],[.int .i64 (c.sC:Nat)],[.int .i64 (c.sB:Nat)],[.int .i64 (c.sT:Nat)]]) (cs:=ints .i64 sh) (len:=4) ?_ rfl (by rw [hsh];rfl)) ?_
  · repeat (first | exact Parts.nil _ | refine Parts.cons rfl rfl rfl rfl ?_)
  have E7:Ext w6 (w6.alloc (.cells (ints .i64 sh).toArray 3)):=q1m _ _;have B7:Blk (w6.alloc (.cells (ints .i64 sh).toArray 3)) w6.heap.size 3 (ints .i64 sh):=Blk.new _ _ _;generalize w6.alloc (.cells (ints .i64 sh).toArray 3)=w7 at *;generalize w6.heap.size=g7 at *;(refine Ls (q0h rfl)<|m_I rfl<|q0c<|tn<|q0j ?_);have hs7:=E7.size;have k37:=k4.trans (k5.trans (k6.trans (EncK.of_ext (B:=w3.heap.size) (p:=g2) E7)));have B17:=B6.ext E7;have e7:=e6.ext E7;have hw7:=hw6.ext E7;have hg7:g7 < w7.heap.size:=q2x B7;have hs37:=k37.k.size;clear B1 B1' B1'' B4 B5 B6 hw3 hw4 hw5 hw6 e3 e4 e5 e6 r3 r3';refine q1k (fun q f w'=>∃ i,q=4 - i∧i≤4∧f 1=ptr g1∧f 3=ptr g2∧f 35=.slice (some ⟨g7,0,none⟩) 4 4∧f 36=.int .i64 4∧f 37=.int .i64 (i:Nat)∧EncAt w3.heap.size g2 w' (a6++(sh.take i).flatMap (Ce.byN 4))∧EncK w3.heap.size g2 w7 w') 4 ?_ ?_
  · exact ⟨0,rfl,by omega,rfl,rfl,rfl,rfl,rfl,by simpa using e7,EncK.refl _ _ _⟩
  · rintro q f w8 ⟨i,rfl,hi,f1,f3,f35,f36,f37,e8,k8⟩;rw [fold f1,fold f3,fold f35,fold f36,fold f37];have hs8:=k8.k.size;(refine q0b<|q0a<|Ls (q1w rfl rfl)<|q0c<|tn<|q0b ?_);refine q1d rfl (fun h=>?_) (fun h=>?_)
    · have hi':i < 4:=(by omega);obtain ⟨x,hx⟩:∃ x,sh[i]?=some x:=⟨_,List.getElem?_eq_getElem (by omega)⟩;have B8:=k8.k.blk B7 (by omega) (.inr (by decide));have hx4:=hsh4 x (List.mem_of_getElem? hx);(refine q0o<|tn<|q0b<|q0j<|q0b<|q0a<|Ls (q0n rfl rfl (by omega))<|Ls (q2l rfl (B8.range (o:=0) fun j u h=>by rw [Nat.zero_add];exact h) (j:=i) (by omega) (q9s hx))<|a_I rfl<|q0c<|tn<|q0a<|m_P rfl<|m_I rfl ?_);refine L_fn (gint w3.heap.size g2 x _ w8 hx4 (by rw [List.length_append,by4_len,List.length_take];omega) (by omega) e8) rfl ?_;rintro e w9 ⟨rfl,e9,k9⟩;refine ⟨_,rfl,?_⟩;(refine q0c<|bn<|tn<|q0a<|Ls (q1e rfl rfl (by omega))<|m_I rfl<|q0c<|tn ?_);refine ⟨4 - (i+1),by omega,i+1,rfl,by omega,rfl,rfl,rfl,rfl,rfl,?_,k8.trans k9⟩;rw [q5a (Ce.byN 4) sh i x hx,← List.append_assoc];exact e9
    · obtain rfl:i=4:=(by omega);have B8:=k8.k.blk B17 (by omega) (.inr (by decide));have hw8:=hw7.keep k8.k hN;obtain ⟨a8,ha8⟩:∃ a,a=a6++(sh.take 4).flatMap (Ce.byN 4):=⟨_,rfl⟩;have hl8:a8.length=a6.length+16:=(by rw [ha8,List.length_append,by4_len,List.length_take];omega);rw [← ha8] at e8;clear B17 hw7 B7;have hs1:=hw8.s1;have cs1:=(q1j (by decide) q2r).one hs1 s1 (List.mem_singleton.2 rfl);(refine q1b<|te<|te<|bx<|tn<|q0b<|q0a<|m_P rfl<|Ls (q0g rfl)<|Ls (X_ld rfl B8 C38)<|m_P rfl ?_);refine Ls (q1u (vf:=[ptr g2]) (vc:=[]) rfl rfl) ?_;skip;refine L_fn (gslI q2r 36 #[ptr g2] #[] w3.heap.size g2 (fun k=>N k∧k < w.heap.size) (Ce.numC 8).w c.sums s1 _ w8 hN elemI hs1 hc.sums (by omega) (by omega) e8) rfl ?_;rintro e w9 ⟨rfl,e9,k9⟩;refine ⟨_,rfl,?_⟩;obtain ⟨a9,ha9⟩:∃ a,a=a8++(Ce.byN 4 c.sums.length++c.sums.flatMap (Ce.numC 8).w):=⟨_,rfl⟩;have hl9:a9.length=a8.length+(4+(c.sums.flatMap (Ce.numC 8).w).length):=(by rw [ha9];simp only [List.length_append,Ce.byN_len]);rw [← ha9] at e9;have B9:=k9.k.blk B8 (by omega) (.inr (by decide));have hw9:=hw8.keep k9.k hN;have hs9:=k9.k.size;have kk9:=k8.trans k9;clear B8 hw8 e8 k9;have hp1:=hw9.p1;have cp1:=q1i.one hp1 p1 (List.mem_singleton.2 rfl);(refine q0c<|tn<|q0b<|q0a<|m_P rfl<|Ls (q0g rfl)<|Ls (q0g rfl)<|Ls (X_ld rfl B9 C39)<|m_P rfl ?_);refine Ls (q1u (vf:=[ptr g2]) (vc:=[]) rfl rfl) ?_;skip;refine L_fn (gslR q0y 38 #[ptr g2] #[] w3.heap.size g2 (fun k=>N k∧k < w.heap.size) Ce.roundC.w c.rows p1 _ w9 hN (elemR hN hc.rows.2) hp1 hc.rows.1 (by omega) (by omega) e9) rfl ?_;rintro e w10 ⟨rfl,e10,k10⟩;refine ⟨_,rfl,?_⟩;obtain ⟨a10,ha10⟩:∃ a,a=a9++(Ce.byN 4 c.rows.length++c.rows.flatMap Ce.roundC.w):=⟨_,rfl⟩;have hl10:a10.length=a9.length+(4+(c.rows.flatMap Ce.roundC.w).length):=(by rw [ha10];simp only [List.length_append,Ce.byN_len]);rw [← ha10] at e10;have B10:=k10.k.blk B9 (by omega) (.inr (by decide));have hw10:=hw9.keep k10.k hN;have hs10:=k10.k.size;have kk10:=kk9.trans k10;clear B9 hw9 e9 k10;have hp2:=hw10.p2;have cp2:=q1t.one hp2 p2 (List.mem_singleton.2 rfl);(refine q0c<|tn<|q0b<|q0a<|m_P rfl<|Ls (q0g rfl)<|Ls (q0g rfl)<|Ls (X_ld rfl B10 C40)<|m_P rfl ?_);refine Ls (q1u (vf:=[ptr g2]) (vc:=[]) rfl rfl) ?_;skip;refine L_fn (gslL q4v 40 #[ptr g2] #[] w3.heap.size g2 (fun k=>N k∧k < w.heap.size) Ce.lpC.w c.ps p2 _ w10 hN (elemL hN hc.ps.2) hp2 hc.ps.1 (by omega) (by omega) e10) rfl ?_;rintro e w11 ⟨rfl,e11,k11⟩;refine ⟨_,rfl,?_⟩;obtain ⟨a11,ha11⟩:∃ a,a=a10++(Ce.byN 4 c.ps.length++c.ps.flatMap Ce.lpC.w):=⟨_,rfl⟩;have hl11:a11.length=a10.length+(4+(c.ps.flatMap Ce.lpC.w).length):=(by rw [ha11];simp only [List.length_append,Ce.byN_len]);rw [← ha11] at e11;have B11:=k11.k.blk B10 (by omega) (.inr (by decide));have hw11:=hw10.keep k11.k hN;have hs11:=k11.k.size;have kk11:=kk10.trans k11;clear B10 hw10 e10 k11;have hp3:=hw11.p3;have cp3:=q1t.one hp3 p3 (List.mem_singleton.2 rfl);(refine q0c<|tn<|q0b<|q0a<|m_P rfl<|Ls (q0g rfl)<|Ls (q0g rfl)<|Ls (X_ld rfl B11 C41)<|m_P rfl ?_);refine Ls (q1u (vf:=[ptr g2]) (vc:=[]) rfl rfl) ?_;skip;refine L_fn (gslL q4v 40 #[ptr g2] #[] w3.heap.size g2 (fun k=>N k∧k < w.heap.size) Ce.lpC.w c.pz p3 _ w11 hN (elemL hN hc.pz.2) hp3 hc.pz.1 (by omega) (by omega) e11) rfl ?_;rintro e w12 ⟨rfl,e12,k12⟩;refine ⟨_,rfl,?_⟩;obtain ⟨a12,ha12⟩:∃ a,a=a11++(Ce.byN 4 c.pz.length++c.pz.flatMap Ce.lpC.w):=⟨_,rfl⟩;have hl12:a12.length=a11.length+(4+(c.pz.flatMap Ce.lpC.w).length):=(by rw [ha12];simp only [List.length_append,Ce.byN_len]);rw [← ha12] at e12;have B12:=k12.k.blk B11 (by omega) (.inr (by decide));have hw12:=hw11.keep k12.k hN;have hs12:=k12.k.size;have kk12:=kk11.trans k12;clear B11 hw11 e11 k12;have hb1:=hw12.b1;have cb1:=q1i.one hb1 b1 (List.mem_singleton.2 rfl);(refine q0c<|tn<|q0b<|q0a<|m_P rfl<|Ls (q0g rfl)<|Ls (X_ld rfl B12 C42)<|m_P rfl ?_);refine Ls (q1u (vf:=[ptr g2]) (vc:=[]) rfl rfl) ?_;skip;refine L_fn (gslR q0y 38 #[ptr g2] #[] w3.heap.size g2 (fun k=>N k∧k < w.heap.size) Ce.roundC.w c.batch b1 _ w12 hN (elemR hN hc.batch.2) hb1 hc.batch.1 (by omega) (by omega) e12) rfl ?_;rintro e w13 ⟨rfl,e13,k13⟩;refine ⟨_,rfl,?_⟩;obtain ⟨a13,ha13⟩:∃ a,a=a12++(Ce.byN 4 c.batch.length++c.batch.flatMap Ce.roundC.w):=⟨_,rfl⟩;have hl13:a13.length=a12.length+(4+(c.batch.flatMap Ce.roundC.w).length):=(by rw [ha13];simp only [List.length_append,Ce.byN_len]);rw [← ha13] at e13;have B13:=k13.k.blk B12 (by omega) (.inr (by decide));have hw13:=hw12.keep k13.k hN;have hs13:=k13.k.size;have kk13:=kk12.trans k13;clear B12 hw12 e12 k13;(refine q0c<|tn<|q0b<|q0a<|m_P rfl<|Ls (q0g rfl)<|Ls (q4p (l:=exC c.v.1 c.v.2) rfl B13 C43 rfl) ?_);refine L_fn (gext w3.heap.size g2 c.v.1 c.v.2 _ w13 hc.v.1 hc.v.2 (by omega) (by omega) e13) rfl ?_;rintro e w14 ⟨rfl,e14,k14⟩;refine ⟨_,rfl,?_⟩;obtain ⟨a14,ha14⟩:∃ a,a=a13++(Ce.byN 8 c.v.1++Ce.byN 8 c.v.2):=⟨_,rfl⟩;have hl14:a14.length=a13.length+(16):=(by rw [ha14];simp only [List.length_append,Ce.byN_len]);rw [← ha14] at e14;have B14:=k14.k.blk B13 (by omega) (.inr (by decide));have hw14:=hw13.keep k14.k hN;have hs14:=k14.k.size;have kk14:=kk13.trans k14;clear B13 hw13 e13 k14;have ho1:=hw14.o1;have co1:=q0y.one ho1 o1 (List.mem_singleton.2 rfl);(refine q0c<|tn<|q0b<|q0a<|m_P rfl<|Ls (q0g rfl)<|Ls (q0g rfl)<|Ls (X_ld rfl B14 C45)<|m_P rfl ?_);refine Ls (q1u (vf:=[ptr g2]) (vc:=[]) rfl rfl) ?_;skip;refine L_fn (gslE q3p 41 #[ptr g2] #[] w3.heap.size g2 (fun k=>N k∧k < w.heap.size) Ce.extC.w c.orow o1 _ w14 hN (elemE hc.orow.2) ho1 hc.orow.1 (by omega) (by omega) e14) rfl ?_;rintro e w15 ⟨rfl,e15,k15⟩;refine ⟨_,rfl,?_⟩;obtain ⟨a15,ha15⟩:∃ a,a=a14++(Ce.byN 4 c.orow.length++c.orow.flatMap Ce.extC.w):=⟨_,rfl⟩;have hl15:a15.length=a14.length+(4+(c.orow.flatMap Ce.extC.w).length):=(by rw [ha15];simp only [List.length_append,Ce.byN_len]);rw [← ha15] at e15;have B15:=k15.k.blk B14 (by omega) (.inr (by decide));have hw15:=hw14.keep k15.k hN;have hs15:=k15.k.size;have kk15:=kk14.trans k15;clear B14 hw14 e14 k15;have ho2:=hw15.o2;have co2:=q0y.one ho2 o2 (List.mem_singleton.2 rfl);(refine q0c<|tn<|q0b<|q0a<|m_P rfl<|Ls (q0g rfl)<|Ls (q0g rfl)<|Ls (X_ld rfl B15 C46)<|m_P rfl ?_);refine Ls (q1u (vf:=[ptr g2]) (vc:=[]) rfl rfl) ?_;skip;refine L_fn (gslE q3p 41 #[ptr g2] #[] w3.heap.size g2 (fun k=>N k∧k < w.heap.size) Ce.extC.w c.ornd o2 _ w15 hN (elemE hc.ornd.2) ho2 hc.ornd.1 (by omega) (by omega) e15) rfl ?_;rintro e w16 ⟨rfl,e16,k16⟩;refine ⟨_,rfl,?_⟩;obtain ⟨a16,ha16⟩:∃ a,a=a15++(Ce.byN 4 c.ornd.length++c.ornd.flatMap Ce.extC.w):=⟨_,rfl⟩;have hl16:a16.length=a15.length+(4+(c.ornd.flatMap Ce.extC.w).length):=(by rw [ha16];simp only [List.length_append,Ce.byN_len]);rw [← ha16] at e16;have B16:=k16.k.blk B15 (by omega) (.inr (by decide));have hw16:=hw15.keep k16.k hN;have hs16:=k16.k.size;have kk16:=kk15.trans k16;clear B15 hw15 e15 k16;have ho3:=hw16.o3;have co3:=q3u.one ho3 o3 (List.mem_singleton.2 rfl);(refine q0c<|tn<|q0b<|q0a<|m_P rfl<|Ls (q0g rfl)<|Ls (q0g rfl)<|Ls (X_ld rfl B16 C47)<|m_P rfl ?_);refine Ls (q1u (vf:=[ptr g2]) (vc:=[]) rfl rfl) ?_;skip;refine L_fn (gslC (q1j (by decide) (q1y _)) 44 #[ptr g2] #[] w3.heap.size g2 (fun k=>N k∧k < w.heap.size) (Ce.lst Ce.wordC).w c.cols o3 _ w16 hN (elemC hN hc.cols.2) ho3 hc.cols.1 (by omega) (by omega) e16) rfl ?_;rintro e w17 ⟨rfl,e17,k17⟩;refine ⟨_,rfl,?_⟩;obtain ⟨a17,ha17⟩:∃ a,a=a16++(Ce.byN 4 c.cols.length++c.cols.flatMap (Ce.lst Ce.wordC).w):=⟨_,rfl⟩;have hl17:a17.length=a16.length+(4+(c.cols.flatMap (Ce.lst Ce.wordC).w).length):=(by rw [ha17];simp only [List.length_append,Ce.byN_len]);rw [← ha17] at e17;have B17:=k17.k.blk B16 (by omega) (.inr (by decide));have hw17:=hw16.keep k17.k hN;have hs17:=k17.k.size;have kk17:=kk16.trans k17;clear B16 hw16 e16 k17;have ho4:=hw17.o4;have co4:=q4n.one ho4 o4 (List.mem_singleton.2 rfl);(refine q0c<|tn<|q0b<|q0a<|m_P rfl<|Ls (q0g rfl)<|Ls (q0g rfl)<|Ls (q0g rfl)<|Ls (X_ld rfl B17 C48)<|m_P rfl ?_);refine Ls (q1u (vf:=[ptr g2]) (vc:=[]) rfl rfl) ?_;skip;refine L_fn (gslD (z0c 32) 34 #[ptr g2] #[] w3.heap.size g2 (fun k=>N k∧k < w.heap.size) (Ce.raw 32).w c.nodes o4 _ w17 hN elemD ho4 hc.nodes (by omega) (by omega) e17) rfl ?_;rintro e w18 ⟨rfl,e18,k18⟩;refine ⟨_,rfl,?_⟩;obtain ⟨a18,ha18⟩:∃ a,a=a17++(Ce.byN 4 c.nodes.length++c.nodes.flatMap (Ce.raw 32).w):=⟨_,rfl⟩;have hl18:a18.length=a17.length+(4+(c.nodes.flatMap (Ce.raw 32).w).length):=(by rw [ha18];simp only [List.length_append,Ce.byN_len]);rw [← ha18] at e18;have B18:=k18.k.blk B17 (by omega) (.inr (by decide));have hw18:=hw17.keep k18.k hN;have hs18:=k18.k.size;have kk18:=kk17.trans k18;clear B17 hw17 e17 k18;obtain ⟨u,bu,ou⟩:=e18;have hu1:=q2a (Row.of_own ou);(refine q0c<|tn<|q0b<|q0a<|m_P rfl<|Ls (q1l rfl)<|Ls (q0g rfl)<|Ls (X_ld rfl bu rfl)<|Ls (q0e (v:=u) rfl)<|q0c<|tn<|q0r ?_);refine q0i rfl rfl (v:=u) rfl ?_;have e0:a18=Ce.certC.w c:=by
        rw [cert_w,ha18,ha17,ha16,ha15,ha14,ha13,ha12,ha11,ha10,ha9,ha8,ha6,ha5,ha4,hsh];simp only [List.append_assoc,List.nil_append,List.take_succ_cons,List.take_zero,List.flatMap_cons,List.flatMap_nil,List.append_nil];rfl
      rw [e0] at ou;exact ⟨u,rfl,(EncK.of_ext (B:=w3.heap.size) (p:=g2) E3 |>.trans (k37.trans kk18)).e w (E1.trans E2) (by omega) (by omega),q6n ou (by omega)⟩
end Go.Proofs.YtbolofkandcnlaaGreatDoor
namespace Ce
def c4:Cert:=⟨[97,98],1,List.replicate 32 0,0,0,0,0,[18446744073709551615],[],[],[],[],(0,0),[],[],[],[]⟩
theorem val_zero:Val zero:=⟨⟨by decide,fun _ h=>by cases h⟩,by decide,⟨rfl,fun b hb=>by rw [(List.mem_replicate.1 hb).2];decide⟩,by decide,by decide,by decide,by decide,⟨by decide,fun _ h=>by cases h⟩,⟨by decide,fun _ h=>by cases h⟩,⟨by decide,fun _ h=>by cases h⟩,⟨by decide,fun _ h=>by cases h⟩,⟨by decide,fun _ h=>by cases h⟩,⟨by decide,by decide⟩,⟨by decide,fun _ h=>by cases h⟩,⟨by decide,fun _ h=>by cases h⟩,⟨by decide,fun _ h=>by cases h⟩,⟨by decide,fun _ h=>by cases h⟩⟩
theorem val_c4:Val c4:=⟨⟨by decide,by decide⟩,by decide,⟨rfl,fun b hb=>by rw [(List.mem_replicate.1 hb).2];decide⟩,by decide,by decide,by decide,by decide,⟨by decide,by decide⟩,⟨by decide,fun _ h=>by cases h⟩,⟨by decide,fun _ h=>by cases h⟩,⟨by decide,fun _ h=>by cases h⟩,⟨by decide,fun _ h=>by cases h⟩,⟨by decide,by decide⟩,⟨by decide,fun _ h=>by cases h⟩,⟨by decide,fun _ h=>by cases h⟩,⟨by decide,fun _ h=>by cases h⟩,⟨by decide,fun _ h=>by cases h⟩⟩
theorem w4_len:(certC.w c4).length=118:=by decide +kernel
theorem w4_10:(certC.w c4).take 10=[2,0,0,0,97,98,1,0,0,0]:=by decide +kernel
theorem w4_58:(certC.w c4)[58]?=some 1:=by decide +kernel
theorem w4_62:(certC.w c4)[62]?=some 255:=by decide +kernel
theorem w4_69:(certC.w c4)[69]?=some 255:=by decide +kernel
theorem w4_70:(certC.w c4)[70]?=some 0:=by decide +kernel
theorem w0_len:(certC.w zero).length=108:=by decide +kernel
theorem w_lt {c:Cert} (h:Val c):∀ b∈certC.w c,b < 256:=z0a.byte c h.ok
end Ce
namespace Go.Proofs.YtbolofkandcnlaaGreatDoor
open Go.RowKit Go.Proofs.K
theorem encC {N:Nat→Prop} {w:World} {y:List Value} {c:Ce.Cert} (h:cerR N w y c) (hv:Ce.Val c) (hl:(Ce.certC.w c).length≤99990000) :
    Calls Tryz.prog 9 #[.agg y.toArray] w fun e w'=>∃ q,e=.returned q∧Ext w w'∧w'.ownsRow w.heap.size 5 1 q (Ce.certC.w c).length (ints .u8 (Ce.certC.w c)):=by
  obtain ⟨qb,s1,p1,p2,p3,b1,o1,o2,o3,o4,rfl,hr,h⟩:=h;exact gencode N c qb s1 p1 p2 p3 b1 o1 o2 o3 o4 w (val64 hv hl) h
theorem row_blk {w:World} {g:Nat} {T:TypeId} {l:List Nat} (h:Blk w g T (ints .u8 l)) (hl:l.length≤maxLen):RowN (fun k=>k=g) w 1 (.slice (some ⟨g,0,none⟩) l.length l.length) l.length (ints .u8 l) :=
  ⟨g,g+1,fun k h1 h2=>by omega,by rw [q0t];omega,_,_,rfl,Nat.le_refl _,hl,fun _=>⟨g,0,rfl,Nat.le_refl _,Nat.lt_succ_self _,h.range (o:=0) fun j u hu=>by rw [Nat.zero_add];exact hu⟩⟩
theorem z1v:Qy.parse (sb ⟨#[99,111,117,110,116]⟩)=(⟨1,0,0,[[]]⟩,0,0):=by kernel_rfl
theorem parse_counts:Qy.parse (sb ⟨#[99,111,117,110,116,115]⟩)=(Qy.q0,0,130):=by kernel_rfl
theorem parse_empty:Qy.parse (sb ⟨#[]⟩)=(Qy.q0,0,131):=by kernel_rfl
theorem parse_groups:Qy.parse (sb ⟨#[103,114,111,117,112,115,32,118,97,108,117,101]⟩)=(⟨4,3,0,[[]]⟩,0,0):=by kernel_rfl
set_option maxRecDepth 100000 in
set_option maxHeartbeats 8000000 in
theorem lsane (w:World) (hw:Wx w):Calls Tryz.prog 4 #[] w fun e w'=>e=.returned (.bool true)∧Ext w w':=by
  refine q0l Tryz.func4 rfl Tryz.ntmps4 rfl ?_;(refine q0b<|q0a<|a_B rfl<|q0c<|tn<|q0b<|q0a ?_);refine L_fn (z1z (fun _=>False) (.slice none 0 0) [] w ⟨0,0,fun _ _ h=>absurd h (by omega),Row.nil _ _ _ _⟩ (fun _ h=>by cases h)) rfl ?_;rintro e w1 h1;obtain ⟨y1,rfl,E1,hy1⟩:=h1.err (k:=6) rfl;refine ⟨_,rfl,?_⟩;(refine m_T rfl<|Ls (q0u rfl rfl)<|Ls (q0u rfl rfl) ?_);refine q0z ?_;intro g1 u1 B1 hg1 F1 hs1;refine q0m (l:=y1) rfl rfl (q4u hy1) (q2c.one hy1) B1 rfl ?_;intro w2 B1 hh1 hs2;have h1s:=E1.size;have E2:=(E1.trans F1).then hh1 fun q h=>by cases h;omega
  have h2s:=E2.size;clear B1 hy1;(refine a_I rfl<|q0c<|tn<|q0b<|q0a ?_);obtain ⟨n,hn⟩:∃ n:Nat,n=65537:=⟨_,rfl⟩;refine L_make (z:=[.int .u8 0]) n n rfl rfl (by rw [hn];rfl) (by rw [hn];rfl) (Nat.le_refl _) (by omega) (by omega) ?_;intro g2 w3 B2 hg2 F2 hs3;rw [show (List.replicate n [Value.int .u8 0]).flatten=ints .u8 (List.replicate n 0) from q7i .u8 n 0] at B2;have R2:=row_blk B2 (by rw [List.length_replicate];unfold maxLen;omega);rw [List.length_replicate] at R2;have E3:=E2.trans F2;have h3s:=E3.size;refine L_fn (z1z (fun k=>k=g2) (.slice (some ⟨g2,0,none⟩) n n) (List.replicate n 0) w3 (by rw [List.length_replicate];exact R2) (fun x hx=>by rw [(List.mem_replicate.1 hx).2];decide)) rfl ?_;rintro e w4 h4;obtain ⟨y2,rfl,E4,hy2⟩:=h4.err (k:=2) (by unfold Ce.decode;rw [List.length_replicate,if_pos (by omega)]);refine ⟨_,rfl,?_⟩;(refine m_T rfl<|Ls (q0u rfl rfl)<|Ls (q0u rfl rfl) ?_);refine q0z ?_;intro g3 u3 B3 hg3 F3 hs4;refine q0m (l:=y2) rfl rfl (q4u hy2) (q2c.one hy2) B3 rfl ?_;intro w5 B3 hh3 hs5;have h4s:=E4.size;have E5:=((E3.trans E4).trans F3).then hh3 fun q h=>by cases h;omega
  have h5s:=E5.size;clear B3 hy2 B2 R2;(refine a_I rfl<|q0c<|tn<|q0b<|q0a ?_);refine Ls (q1x (r:=[]) (Parts.nil _)) ?_;refine L_fn (gcommit1 w5) rfl ?_;rintro e w6 ⟨y5,hy5,hc5,rfl,E6⟩;refine ⟨_,rfl,?_⟩;(refine m_T rfl<|Ls (q0u rfl rfl)<|Ls (q0u rfl rfl) ?_);refine q0z ?_;intro g5 u5 B5 hg5 F5 hs6;refine q0m (l:=y5) rfl rfl hy5 hc5 B5 rfl ?_;intro w7 B5 hh5 hs7;have h6s:=E6.size;have E7:=((E5.trans E6).trans F5).then hh5 fun q h=>by cases h;omega
  have h7s:=E7.size;clear B5;(refine a_I rfl<|q0c<|tn<|q0b<|q0a ?_);refine q3z (v:=.int .i64 (-1)) rfl rfl ?_;intro q8 w8 r8 E8 hs8 _;have hq8:=q2a r8
  have S8:slR 1 sumR (fun _=>True) w8 [q8] [18446744073709551615]:=⟨q8,rfl,[[.int .i64 (-1)]],rfl,fun y hy=>by rw [List.mem_singleton.1 hy];rfl,RowN.ofAny r8,fun i y a hy ha=>by
    match i with
    | 0=>cases hy;cases ha;exact ⟨-1,rfl,by decide,by decide,by decide⟩
    | i+1=>cases hy⟩
  have K8:cerR (fun _=>True) w8 (cerC Ce.c4 ⟨#[97,98]⟩ q8 (.slice none 0 0) (.slice none 0 0) (.slice none 0 0) (.slice none 0 0) (.slice none 0 0) (.slice none 0 0) (.slice none 0 0) (.slice none 0 0)) Ce.c4:=⟨_,_,_,_,_,_,_,_,_,_,rfl,rfl,rfl,S8,q1n,q1n,q1n,q1n,q1n,q1n,q1n,q1n⟩;skip;refine Ls (q1x (r:=[(0,.const (.string ⟨#[97,98]⟩)),(1,.const (.int .i64 1)),(4,.tmp 27)]) (Parts.cons (v:=.string ⟨#[97,98]⟩) (c:=[.string ⟨#[97,98]⟩]) (z:=[.string ByteArray.empty]) rfl rfl rfl rfl (Parts.cons (v:=.int .i64 1) (c:=[.int .i64 1]) (z:=[.int .i64 0]) rfl rfl rfl rfl (Parts.cons (v:=q8) (c:=[q8]) (z:=[.slice none 0 0]) rfl (q3o hq8) rfl rfl (Parts.nil _))))) ?_;refine L_fn (encC K8 Ce.val_c4 (by rw [Ce.w4_len];decide)) rfl ?_;rintro e w9 ⟨q9,rfl,E9,O9⟩;refine ⟨_,rfl,?_⟩;have hq9:=q2a (Row.of_own O9);have E09:=(E7.trans E8).trans E9;(refine Ls (q0e (v:=q9) rfl)<|q0c<|tn<|q0b<|q0a ?_);refine Ls (q1x (r:=[]) (Parts.nil _)) ?_;refine L_fn (encC (N:=fun _=>True) (y:=zerC) q2v Ce.val_zero (by rw [Ce.w0_len];decide)) rfl ?_;rintro e w10 ⟨q10,rfl,E10,O10⟩;refine ⟨_,rfl,?_⟩;have hq10:=q2a (Row.of_own O10);have E010:=E09.trans E10;(refine Ls (q0e (v:=q10) rfl)<|q0c<|tn<|q0b<|q0a<|Ls (q0d (v:=q10) rfl) ?_);refine L_fn (z1z _ q10 (Ce.certC.w Ce.zero) w10 (RowN.of_own O10) (Ce.w_lt Ce.val_zero)) rfl ?_;rintro e w11 h11;obtain ⟨y6,rfl,E11,hy6⟩:=h11.ok (Ce.decode_encode Ce.val_zero.ok (by rw [Ce.w0_len];decide));refine ⟨_,rfl,?_⟩;(refine m_T rfl<|Ls (q0u rfl rfl)<|Ls (q0u rfl rfl) ?_);refine q0z ?_;intro g12 u12 B12 hg12 F12 hs12;refine q0m (l:=y6) rfl rfl (q4u hy6) (q2c.one hy6) B12 rfl ?_;intro w13 B13 hh13 hs13;have h10s:=E10.size;have h11s:=E11.size;have E1113:=(E11.trans F12).then hh13 fun q h=>by cases h;omega
  have E013:=E010.trans E1113;have O10':=q1p O10 E1113;(refine a_I rfl<|q0c<|tn<|q0b<|q0a<|Ls (q0d (v:=q10) rfl) ?_);refine q3z (v:=.int .u8 0) rfl rfl ?_;intro q14 w14 r14 E14 hs14 _;have hq14:=q2a r14;have O10'':=q1p O10' E14;refine L_fn (joinB w9.heap.size w14.heap.size _ _ q10 q14 (Ce.certC.w Ce.zero) [0] w14 (Row.of_own O10'') r14 (by rw [Ce.w0_len];decide)) rfl ?_;rintro e w15 ⟨q15,rfl,E15,O15⟩;refine ⟨_,rfl,?_⟩;have hq15:=q2a (Row.of_own O15);skip;have O15':w15.ownsRow w14.heap.size 5 1 q15 (Ce.certC.w Ce.zero++[0]).length (ints .u8 (Ce.certC.w Ce.zero++[0])):=by rw [List.length_append];exact O15
  refine L_fn (z1z _ q15 (Ce.certC.w Ce.zero++[0]) w15 (RowN.of_own O15') (fun x hx=>(List.mem_append.1 hx).elim (Ce.w_lt Ce.val_zero x) fun h=>by rw [List.mem_singleton.1 h];decide)) rfl ?_;rintro e w16 h16;obtain ⟨y7,rfl,E16,hy7⟩:=h16.err (Ce.decode_suffix Ce.val_zero.ok (by rw [List.length_append,Ce.w0_len];decide) (by decide));refine ⟨_,rfl,?_⟩;(refine m_T rfl<|Ls (q0u rfl rfl)<|Ls (q0u rfl rfl) ?_);refine q0z ?_;intro g17 u17 B17 hg17 F17 hs17;refine q0m (l:=y7) rfl rfl (q4u hy7) (q2c.one hy7) B17 rfl ?_;intro w18 B18 hh18 hs18;have h14s:=E14.size;have h15s:=E15.size;have h16s:=E16.size;have E1318:=(((E14.trans E15).trans E16).trans F17).then hh18 fun q h=>by cases h;omega
  have E918:=E10.trans (E1113.trans E1318);have E018:=E09.trans E918;have B13':=B13.ext E1318;have O9':=q1p O9 E918;have O10f:=q1p O10' E1318;clear B18 hy7 O10'' O15 O15' r14 r8 S8 K8;have h58:=Ce.w4_58;have h62:=Ce.w4_62;have h69:=Ce.w4_69;have h70:=Ce.w4_70;have h10:=Ce.w4_10;have hL4:=Ce.w4_len;have hL0:=Ce.w0_len;generalize Ce.certC.w Ce.c4=L4 at *;generalize Ce.certC.w Ce.zero=L0 at *;obtain ⟨b9,o9,c9,rfl,hc9,_,_,hR9⟩:=(Row.of_own O9').at (k:=0) (by omega);obtain ⟨b10,o10,c10,rfl,hc10,_,_,hR10⟩:=(Row.of_own O10f).at (k:=0) (by omega);have S9:slR 1 (numR .u8) _ w18 [.slice (some ⟨b9,o9,none⟩) L4.length c9] L4:=q8n (RowN.of_own O9');(refine a_I rfl<|q0c<|tn<|q0b<|q0b<|q0a<|m_S rfl<|Ls (q0h rfl)<|Ls (q3g rfl rfl (by omega))<|q0c<|tn<|q0q rfl<|q0o<|tn<|q0b<|q0a ?_);dsimp only [List.append];(refine m_I rfl<|Ls (q3h rfl rfl (by omega))<|m_B rfl<|Lg2 rfl rfl rfl (q0d (v:=.int _ _) rfl)<|Lg2 rfl rfl rfl (q3h rfl rfl (by omega))<|Ls (q0k (v:=.bool _) rfl rfl)<|m_B rfl<|Lg2 rfl rfl rfl (q0d (v:=.int _ _) rfl)<|Lg2 rfl rfl rfl (q3h rfl rfl (by omega))<|Ls (q0k (v:=.bool _) rfl rfl)<|m_B rfl<|Lg2 rfl rfl rfl (q0d (v:=.slice _ _ _) rfl) ?_);refine q2h rfl rfl rfl ?_;refine Ls (q5c (size:=1) (i:=0) (j:=10) rfl rfl ⟨_,rfl⟩ (by omega) (by omega)) ?_;refine q2h rfl rfl rfl ?_;refine Ls (q6g (z:=[.int .u8 0]) (zs':=[[.int .u8 2],[.int .u8 0],[.int .u8 0],[.int .u8 0],[.int .u8 97],[.int .u8 98],[.int .u8 1],[.int .u8 0],[.int .u8 0],[.int .u8 0]]) (cs:=ints .u8 [2,0,0,0,97,98,1,0,0,0]) (len:=10) ?_ rfl rfl) ?_
  · repeat (first | exact Parts.nil _ | refine Parts.cons rfl rfl rfl rfl ?_)
  have E19:Ext w18 (w18.alloc (.cells (ints .u8 [2,0,0,0,97,98,1,0,0,0]).toArray 5)):=q1m _ _;have B19:Blk (w18.alloc (.cells (ints .u8 [2,0,0,0,97,98,1,0,0,0]).toArray 5)) w18.heap.size 5 (ints .u8 [2,0,0,0,97,98,1,0,0,0]):=Blk.new _ _ _;generalize w18.alloc (.cells (ints .u8 [2,0,0,0,97,98,1,0,0,0]).toArray 5)=w19 at *;generalize w18.heap.size=g19 at *;have R19:=q8n (row_blk B19 (by unfold maxLen;decide));refine q2h rfl rfl rfl ?_;refine L_fn (q5t.t (s7same ((q1j (by decide) (q1y .u8)).ext (q7f S9 10 (by omega)) E19) R19) h10) rfl ?_;rintro e w20 ⟨rfl,E20⟩;refine ⟨_,rfl,?_⟩;have E1820:=E19.trans E20;have hR9':=E1820.range hR9;have B13'':=B13'.ext E1820;(refine Ls (q0k (v:=.bool _) rfl rfl)<|m_B rfl<|Lg2 rfl rfl rfl (q0d (v:=.slice _ _ _) rfl)<|Lg2 rfl rfl rfl (q2m rfl rfl (by omega))<|Lg2 rfl rfl rfl (q2l rfl hR9' (j:=58) (by omega) (q9s h58))<|Lg2 rfl rfl rfl (q3h rfl rfl (by omega))<|Ls (q0k (v:=.bool _) rfl rfl)<|m_B rfl<|Lg2 rfl rfl rfl (q0d (v:=.slice _ _ _) rfl)<|Lg2 rfl rfl rfl (q2m rfl rfl (by omega))<|Lg2 rfl rfl rfl (q2l rfl hR9' (j:=62) (by omega) (q9s h62))<|Lg2 rfl rfl rfl (q3h rfl rfl (by omega))<|Ls (q0k (v:=.bool _) rfl rfl)<|m_B rfl<|Lg2 rfl rfl rfl (q0d (v:=.slice _ _ _) rfl)<|Lg2 rfl rfl rfl (q2m rfl rfl (by omega))<|Lg2 rfl rfl rfl (q2l rfl hR9' (j:=69) (by omega) (q9s h69))<|Lg2 rfl rfl rfl (q3h rfl rfl (by omega))<|Ls (q0k (v:=.bool _) rfl rfl)<|m_B rfl<|Lg2 rfl rfl rfl (q0d (v:=.slice _ _ _) rfl)<|Lg2 rfl rfl rfl (q2m rfl rfl (by omega))<|Lg2 rfl rfl rfl (q2l rfl hR9' (j:=70) (by omega) (q9s h70))<|Lg2 rfl rfl rfl (q3h rfl rfl (by omega))<|Ls (q0k (v:=.bool _) rfl rfl)<|m_B rfl<|Lg2 rfl rfl rfl (q0d (v:=.slice _ _ _) rfl)<|Lg2 rfl rfl rfl (q0h rfl)<|Lg2 rfl rfl rfl (q3h rfl rfl (by omega))<|Ls (q0k (v:=.bool _) rfl rfl)<|m_B rfl<|Lg2 rfl rfl rfl (q2o rfl B13'' (q4u hy6)) ?_);refine q2h rfl rfl rfl ?_;refine Ls (q1x (r:=[]) (Parts.nil _)) ?_;refine q2h rfl rfl rfl ?_;have hy6':=q2c.ext (q2c.grown (q2c.ext hy6 F12) hh13 fun q h k=>by cases h;omega) (E1318.trans E1820);refine L_fn (q5t.t (s22same (M:=fun _=>True) (y:=zerC) hy6' q2v q6y q6y) rfl) rfl ?_;rintro e w21 ⟨rfl,E21⟩;refine ⟨_,rfl,?_⟩;have E021:=(E018.trans E1820).trans E21;(refine Ls (q0k (v:=.bool _) rfl rfl)<|m_B rfl<|Lg2 rfl rfl rfl (q0d (v:=.int _ _) rfl)<|Lg2 rfl rfl rfl (q3h rfl rfl (by omega))<|Ls (q0k (v:=.bool _) rfl rfl)<|m_B rfl<|Lg2 rfl rfl rfl (q0d (v:=.int _ _) rfl)<|Lg2 rfl rfl rfl (q3h rfl rfl (by omega))<|Ls (q0k (v:=.bool _) rfl rfl)<|m_B rfl ?_);refine q2h rfl rfl rfl ?_;refine L_fn (gfl ⟨#[99,111,117,110,116]⟩ 12 1 (fun w hw=>gproveA _ (by decide) 12 (.inr (by decide)) z1v w hw) w21 (hw.ext E021)) rfl ?_;rintro e w22 ⟨rfl,E22⟩;refine ⟨_,rfl,?_⟩;have E022:=E021.trans E22;(refine Ls (q0k (v:=.bool _) rfl rfl)<|m_B rfl ?_);refine q2h rfl rfl rfl ?_;refine L_fn (gfl ⟨#[99,111,117,110,116]⟩ (-1) 1 (fun w hw=>gproveA _ (by decide) (-1) (.inl (by decide)) z1v w hw) w22 (hw.ext E022)) rfl ?_;rintro e w23 ⟨rfl,E23⟩;refine ⟨_,rfl,?_⟩;have E023:=E022.trans E23;(refine Ls (q0k (v:=.bool _) rfl rfl)<|m_B rfl ?_);refine q2h rfl rfl rfl ?_;refine L_fn (gfl ⟨#[99,111,117,110,116,115]⟩ 12 130 (fun w hw=>gproveP _ (by decide) 12 0 130 (by decide) parse_counts w hw) w23 (hw.ext E023)) rfl ?_;rintro e w24 ⟨rfl,E24⟩;refine ⟨_,rfl,?_⟩;have E024:=E023.trans E24;(refine Ls (q0k (v:=.bool _) rfl rfl)<|m_B rfl ?_);refine q2h rfl rfl rfl ?_;refine L_fn (gfl ⟨#[]⟩ 0 131 (fun w hw=>gproveP _ (by decide) 0 0 131 (by decide) parse_empty w hw) w24 (hw.ext E024)) rfl ?_;rintro e w25 ⟨rfl,E25⟩;refine ⟨_,rfl,?_⟩;have E025:=E024.trans E25;(refine Ls (q0k (v:=.bool _) rfl rfl)<|m_B rfl ?_);refine q2h rfl rfl rfl ?_;refine L_fn (gfl ⟨#[103,114,111,117,112,115,32,118,97,108,117,101]⟩ 0 140 (fun w hw=>gproveB _ (by decide) 0 parse_groups w hw) w25 (hw.ext E025)) rfl ?_;rintro e w26 ⟨rfl,E26⟩;refine ⟨_,rfl,?_⟩;(refine Ls (q0k (v:=.bool _) rfl rfl)<|a_B rfl<|q0c<|tn<|q0r ?_);exact q0i rfl rfl (v:=.bool true) rfl ⟨rfl,E025.trans E26⟩
end Go.Proofs.YtbolofkandcnlaaGreatDoor
namespace Ce
theorem flat_le {α:Type} (f:α→List Nat) (k:Nat):∀ (l:List α),(∀ a∈l,(f a).length≤k)→(l.flatMap f).length≤l.length * k
  | [],_=>Nat.zero_le _
  | a :: l,h=>by
    have h1:=h a (List.mem_cons_self ..);have h2:=flat_le f k l fun x hx=>h x (List.mem_cons_of_mem _ hx);rw [List.flatMap_cons,List.length_append,List.length_cons,Nat.succ_mul];omega
theorem q9q {α:Type} (c:Cod α) (k n:Nat) (l:List α) (hl:l.length≤n) (h:∀ a∈l,(c.w a).length≤k):((lst c).w l).length≤4+n * k:=by
  have h1:=flat_le c.w k l h;have h2:l.length * k≤n * k:=Nat.mul_le_mul_right _ hl;show (byN 4 l.length++l.flatMap c.w).length≤_;rw [List.length_append,byN_len];omega
theorem ext_le (e:EE):(extC.w e).length≤16:=by
  show (byN 8 e.1++byN 8 e.2).length≤16;rw [List.length_append,byN_len,byN_len];omega
theorem mE_ok (e:EE):okE (mE e):=⟨Nat.mod_lt _ (by decide),Nat.mod_lt _ (by decide)⟩
theorem tk_le {α:Type} (l:List α) (k:Nat):(l.take k).length≤k:=by rw [List.length_take];omega
theorem mR_ok (l:List EE):okR (mR l):=⟨by unfold mR;rw [List.length_map];have:=tk_le l 4;omega,fun e he=>by
  obtain ⟨a,_,rfl⟩:=List.mem_map.1 he
  exact mE_ok a⟩
theorem mR_le (l:List EE):(roundC.w (mR l)).length≤68:=q9q extC 16 4 _ (by unfold mR;rw [List.length_map];exact tk_le l 4) fun e _=>ext_le e
theorem mRs_ok (l:List (List EE)):okRs (mRs l):=⟨by unfold mRs;rw [List.length_map];have:=tk_le l 4;omega,fun e he=>by
  obtain ⟨a,_,rfl⟩:=List.mem_map.1 he
  exact mR_ok a⟩
theorem mRs_le (l:List (List EE)):((lst roundC).w (mRs l)).length≤276:=q9q roundC 68 4 _ (by unfold mRs;rw [List.length_map];exact tk_le l 4) fun r hr=>by
  obtain ⟨a,_,rfl⟩:=List.mem_map.1 hr;exact mR_le a
theorem mL_ok (p:LP):okP (mL p):=⟨mRs_ok _,mE_ok _,mE_ok _,mR_ok _⟩
theorem mL_le (p:LP):(lpC.w (mL p)).length≤376:=by
  show ((lst roundC).w (mRs p.rounds)++(extC.w (mE p.left)++(extC.w (mE p.right)++roundC.w (mR p.line)))).length≤376;simp only [List.length_append];have:=mRs_le p.rounds;have:=ext_le (mE p.left);have:=ext_le (mE p.right);have:=mR_le p.line;omega
theorem mLs_ok (l:List LP):(mLs l).length < 4294967296∧∀ p∈mLs l,okP p:=⟨by unfold mLs;rw [List.length_map];have:=tk_le l 3;omega,fun e he=>by
  obtain ⟨a,_,rfl⟩:=List.mem_map.1 he
  exact mL_ok a⟩
theorem mLs_le (l:List LP):((lst lpC).w (mLs l)).length≤1132:=q9q lpC 376 3 _ (by unfold mLs;rw [List.length_map];exact tk_le l 3) fun r hr=>by
  obtain ⟨a,_,rfl⟩:=List.mem_map.1 hr;exact mL_le a
theorem m5_ok (l:List EE):okR ((l.take 5).map mE):=⟨by rw [List.length_map];have:=tk_le l 5;omega,fun e he=>by
  obtain ⟨a,_,rfl⟩:=List.mem_map.1 he
  exact mE_ok a⟩
theorem m5_le (l:List EE):(roundC.w ((l.take 5).map mE)).length≤84:=q9q extC 16 5 _ (by rw [List.length_map];exact tk_le l 5) fun e _=>ext_le e
structure Raw8 (c:Cert):Prop where
  q:∀ b∈c.q,b < 256
  root:c.root.length=32∧∀ b∈c.root,b < 256
  sums:∀ x∈c.sums,x < 18446744073709551616
  nodes:∀ e∈c.nodes,e.length=32∧∀ b∈e,b < 256
theorem mC_val {c:Cert} (h:Raw8 c) (lg a b d e:Int):Val (mC c lg a b d e) where
  q:=⟨by have:=tk_le c.q 30;show (c.q.take 30).length < _;omega,fun x hx=>h.q x (List.mem_of_mem_take hx)⟩
  log:=by show (lg % 65536).toNat < _;omega
  root:=h.root
  sR:=by show (a % 65536).toNat < _;omega
  sC:=by show (b % 65536).toNat < _;omega
  sB:=by show (d % 65536).toNat < _;omega
  sT:=by show (e % 65536).toNat < _;omega
  sums:=⟨by have:=tk_le c.sums 5;show (c.sums.take 5).length < _;omega,fun x hx=>h.sums x (List.mem_of_mem_take hx)⟩
  rows:=mRs_ok _
  ps:=mLs_ok _
  pz:=mLs_ok _
  batch:=mRs_ok _
  v:=mE_ok _
  orow:=m5_ok _
  ornd:=m5_ok _
  cols:=⟨by show ((c.cols.take 3).map _).length < _;rw [List.length_map];have:=tk_le c.cols 3;omega,fun r hr=>by
    obtain ⟨x,_,rfl⟩:=List.mem_map.1 hr
    refine ⟨by rw [List.length_map];have:=tk_le x 5;omega,fun y hy=>?_⟩
    obtain ⟨z,_,rfl⟩:=List.mem_map.1 hy
    exact Nat.mod_lt _ (by decide)⟩
  nodes:=⟨by have:=tk_le c.nodes 4;show (c.nodes.take 4).length < _;omega,fun x hx=>h.nodes x (List.mem_of_mem_take hx)⟩
theorem mC_le {c:Cert} (h:Raw8 c) (lg a b d e:Int):0 < (certC.w (mC c lg a b d e)).length∧(certC.w (mC c lg a b d e)).length≤5000:=by
  have hq:((lst byteC).w (c.q.take 30)).length≤4+30 * 1:=q9q byteC 1 30 _ (tk_le _ _) fun b _=>by show (byN 1 b).length≤1;rw [byN_len];omega
  have hs:((lst (numC 8)).w (c.sums.take 5)).length≤4+5 * 8:=q9q (numC 8) 8 5 _ (tk_le _ _) fun b _=>by show (byN 8 b).length≤8;rw [byN_len];omega
  have hc:((lst (lst wordC)).w ((c.cols.take 3).map fun l=>(l.take 5).map (· % pr))).length≤4+3 * 44:=q9q (lst wordC) 44 3 _ (by rw [List.length_map];exact tk_le _ _) fun r hr=>by
    obtain ⟨x,_,rfl⟩:=List.mem_map.1 hr;exact q9q wordC 8 5 _ (by rw [List.length_map];exact tk_le _ _) fun b _=>by show (byN 8 b).length≤8;rw [byN_len];omega
  have hn:((lst (raw 32)).w (c.nodes.take 4)).length≤4+4 * 32:=q9q (raw 32) 32 4 _ (tk_le _ _) fun b hb=>Nat.le_of_eq (h.nodes b (List.mem_of_mem_take hb)).1;have h1:=mRs_le c.rows;have h2:=mLs_le c.ps;have h3:=mLs_le c.pz;have h4:=mRs_le c.batch;have h5:=ext_le (mE c.v);have h6:=m5_le c.orow;have h7:=m5_le c.ornd;have h8:=h.root.1;rw [show certC.w (mC c lg a b d e)=(lst byteC).w (c.q.take 30)++(byN 4 (lg % 65536).toNat++(c.root++(byN 4 (a % 65536).toNat++(byN 4 (b % 65536).toNat++(byN 4 (d % 65536).toNat++(byN 4 (e % 65536).toNat++((lst (numC 8)).w (c.sums.take 5)++((lst roundC).w (mRs c.rows)++((lst lpC).w (mLs c.ps)++((lst lpC).w (mLs c.pz)++((lst roundC).w (mRs c.batch)++(extC.w (mE c.v)++(roundC.w ((c.orow.take 5).map mE)++(roundC.w ((c.ornd.take 5).map mE)++((lst (lst wordC)).w ((c.cols.take 3).map fun l=>(l.take 5).map (· % pr))++(lst (raw 32)).w (c.nodes.take 4)))))))))))))))) from rfl];simp only [List.length_append,byN_len];omega
end Ce
namespace Go.Proofs.K
open Go.RowKit
end Go.Proofs.K
namespace Go.Proofs.YtbolofkandcnlaaGreatDoor
open Go.RowKit Go.Proofs.K Go.ChangeShapes Go.WideShapes Go.ChangeAt
theorem seg {α:Type} (l:List α) (a k:Nat):l.drop a=(l.drop a).take k++l.drop (a+k):=by
  rw [← List.drop_drop,List.take_append_drop]
section
variable {H:Type} {enc:TypeId × Value→H} {W:World} {base:Nat} {held:Bool}
def OpR (enc:TypeId × Value→H) (W:World) (base:Nat) (held:Bool) {α:Type} (size:Nat) (t:TypeId) (R:Rep α) (Q:α→Prop):Prop :=
  ∀ (fuel:Nat) (cs:List Value) (x:DataW H × List MemPlace),cs.length=size→DataW.trod enc Tryz.prog W base (fun _=>true) held fuel t cs=some x→∃ a,R (fun k=>k < W.heap.size) W cs a∧Q a
theorem wfc_u8 {n:Int} (h:(Lit.int .u8 n).wf=true):∃ a:Nat,n=a∧a < 256:=by
  simp only [Lit.wf,Bool.and_eq_true,decide_eq_true_eq] at h;have h1:IntKind.u8.min=0:=by decide
  have h2:IntKind.u8.max=255:=by decide
  exact ⟨n.toNat,by omega,by omega⟩
theorem wfc_u64 {n:Int} (h:(Lit.int .u64 n).wf=true):∃ a:Nat,n=a∧a < 18446744073709551616:=by
  simp only [Lit.wf,Bool.and_eq_true,decide_eq_true_eq] at h;have h1:IntKind.u64.min=0:=by decide
  have h2:IntKind.u64.max=18446744073709551615:=by decide
  exact ⟨n.toNat,by omega,by omega⟩
theorem wfc_i64 {n:Int} (h:(Lit.int .i64 n).wf=true):-9223372036854775808≤n∧n≤9223372036854775807:=by
  simp only [Lit.wf,Bool.and_eq_true,decide_eq_true_eq] at h;have h1:IntKind.i64.min=-9223372036854775808:=by decide
  have h2:IntKind.i64.max=9223372036854775807:=by decide
  exact ⟨by omega,by omega⟩
theorem op_u64:OpR enc W base held 1 32 (numR .u64) (· < 18446744073709551616):=fun fuel cs x _ h=>by
  obtain ⟨n,rfl,_,hw⟩:=DataW.trod_int Tryz.underlying32 h;obtain ⟨a,rfl,ha⟩:=wfc_u64 hw;exact ⟨a,rfl,ha⟩
theorem op_sum:OpR enc W base held 1 2 sumR (· < 18446744073709551616):=fun fuel cs x _ h=>by
  obtain ⟨n,rfl,_,hw⟩:=DataW.trod_int Tryz.underlying2 h;exact ⟨u64v n,⟨n,rfl,rfl,wfc_i64 hw⟩,by unfold u64v;omega⟩
theorem op_sl {α:Type} [Inhabited α] {size:Nat} {t e:TypeId} {R:Rep α} {Q:α→Prop} (ht:Tryz.prog.underlying t=some (.slice e)) (hc:Tryz.prog.cellsOf e=size) (hs:0 < size) (he:OpR enc W base held size e R Q):OpR enc W base held 1 t (slR size R) (fun l=>∀ a∈l,Q a):=by
  intro fuel cs x _ h;rcases Go.Deep.open_slice ht h with ⟨rfl,_⟩ | ⟨a,len,cap,m,n,D,Pl,rfl,_,hlc,hcm,hm,_,hx⟩
  · exact ⟨[],q1n,fun _ h=>by cases h⟩
  · have hm':m=cap:=(by simpa using hm);rw [hc] at hx
    obtain ⟨F,hF⟩:=Go.Deep.choose_lt (α:=List Value × α) (n:=len) (p:=fun i y=>y.1.length=size∧(∀ r,r < size→W.cell? (a.add (i * size+r))=y.1[r]?)∧R (fun k=>k < W.heap.size) W y.1 y.2∧Q y.2) (fun i hi=>by
      obtain ⟨cs,h1,h2⟩:=hx i (by omega)
      obtain ⟨_,hl,hcs⟩:=World.cells?_some h1
      obtain ⟨b,hb,hq⟩:=he n cs _ hl h2
      exact ⟨(cs,b),hl,fun r hr=>by rw [← Addr.add_add,hcs r hr],hb,hq⟩)
    have hll:((List.range len).map fun i=>(F i).2).length=len:=(by simp);have hly:((List.range len).map fun i=>(F i).1).length=len:=(by simp);have hys:∀ y∈(List.range len).map (fun i=>(F i).1),y.length=size:=fun y hy=>by
      obtain ⟨i,hi,rfl⟩:=List.mem_map.1 hy;exact (hF i (List.mem_range.1 hi)).1
    have hfl:((List.range len).map fun i=>(F i).1).flatten.length=len * size:=by
      have:∀ ys:List (List Value),(∀ y∈ys,y.length=size)→ys.flatten.length=ys.length * size:=fun ys=>by
        induction ys with
        | nil=>intro _;simp
        | cons y ys ih=>intro hy;rw [List.flatten_cons,List.length_append,hy y (List.mem_cons_self ..),ih (fun z hz=>hy z (List.mem_cons_of_mem _ hz)),List.length_cons,Nat.succ_mul];omega
      rw [this _ hys,hly]
    refine ⟨(List.range len).map fun i=>(F i).2,⟨_,rfl,(List.range len).map fun i=>(F i).1,by rw [hly,hll],hys,?_,fun i y b hy hb=>?_⟩,fun b hb=>?_⟩
    · rw [hll];refine ⟨0,W.heap.size,fun k _ hk=>hk,z1c hfl hs hlc hcm fun j u hu=>?_⟩;have hj:j < len * size:=(by rw [← hfl];exact (List.getElem?_eq_some_iff.1 hu).1);have hi:j / size < len:=Nat.div_lt_of_lt_mul (by rw [Nat.mul_comm];exact hj);have hr:j % size < size:=Nat.mod_lt _ hs;have hjj:j / size * size+j % size=j:=(by rw [Nat.mul_comm];exact Nat.div_add_mod _ _);have hy:((List.range len).map fun i=>(F i).1)[j / size]?=some (F (j / size)).1:=(by rw [List.getElem?_map,List.getElem?_range hi];rfl);have:=flat_at hys hy hr;rw [hjj,hu] at this;rw [← hjj,(hF _ hi).2.1 _ hr,this]
    · have hi:i < len:=(by have:=(List.getElem?_eq_some_iff.1 hy).1;rwa [hly] at this);rw [List.getElem?_map,List.getElem?_range hi] at hy hb;cases hy
      cases hb
      exact (hF i hi).2.2.1
    · obtain ⟨i,hi,rfl⟩:=List.mem_map.1 hb;exact (hF i (List.mem_range.1 hi)).2.2.2
theorem flds {t:TypeId} {fs:Array Field} {fuel:Nat} {cs:List Value} {x:DataW H × List MemPlace} (ht:Tryz.prog.underlying t=some (.struct fs)) (h:DataW.trod enc Tryz.prog W base (fun _=>true) held fuel t cs=some x) :
    ∃ n,∀ (i off sz:Nat) (T:TypeId),(fs[i]?).map (fun f=>(f.type,f.offset))=some (T,off)→Tryz.prog.cellsOf T=sz→∃ y,DataW.trod enc Tryz.prog W base (fun _=>true) held n T ((cs.drop off).take sz)=some y:=by
  obtain ⟨xs,n,_,_,hlen,hxl,hf⟩:=DataW.trod_struct ht h;refine ⟨n,fun i off sz T hi hsz=>?_⟩;obtain ⟨f,hfi,he⟩:=Option.map_eq_some_iff.1 hi;cases he
  have hlt:i < xs.length:=by rw [hxl];exact (Array.getElem?_eq_some_iff.1 hfi).1
  have:=hf i f hfi;rw [hsz,List.getElem?_eq_getElem hlt] at this;exact ⟨_,this⟩
theorem cl8:Tryz.prog.cellsOf 5=1:=by kernel_rfl
theorem cl64:Tryz.prog.cellsOf 32=1:=by kernel_rfl
theorem cli64:Tryz.prog.cellsOf 2=1:=by kernel_rfl
theorem cli:Tryz.prog.cellsOf 3=1:=by kernel_rfl
theorem clS:Tryz.prog.cellsOf 9=1:=by kernel_rfl
theorem clE:Tryz.prog.cellsOf 34=2:=by kernel_rfl
theorem clD:Tryz.prog.cellsOf 23=32:=by kernel_rfl
theorem clL:Tryz.prog.cellsOf 99=6:=by kernel_rfl
theorem clRo:Tryz.prog.cellsOf 35=1:=by kernel_rfl
theorem clU:Tryz.prog.cellsOf 69=1:=by kernel_rfl
theorem clUU:Tryz.prog.cellsOf 36=1:=by kernel_rfl
theorem clI:Tryz.prog.cellsOf 26=1:=by kernel_rfl
theorem clDs:Tryz.prog.cellsOf 37=1:=by kernel_rfl
theorem clLs:Tryz.prog.cellsOf 29=1:=by kernel_rfl
theorem clRs:Tryz.prog.cellsOf 28=1:=by kernel_rfl
theorem clSh:Tryz.prog.cellsOf 25=4:=by kernel_rfl
theorem clPr:Tryz.prog.cellsOf 31=3:=by kernel_rfl
theorem clOp:Tryz.prog.cellsOf 39=1:=by kernel_rfl
theorem clPx:Tryz.prog.cellsOf 41=4:=by kernel_rfl
theorem op_ex:OpR enc W base held 2 34 exR E64:=by
  intro fuel cs x hl h;obtain ⟨n,hf⟩:=flds Tryz.underlying34 h;obtain ⟨y0,g0⟩:=hf 0 0 1 32 rfl cl64;obtain ⟨y1,g1⟩:=hf 1 1 1 32 rfl cl64;obtain ⟨a,ha,ha8⟩:=op_u64 n _ _ (by simp;omega) g0;obtain ⟨b,hb,hb8⟩:=op_u64 n _ _ (by simp;omega) g1;have ha:(cs.drop 0).take 1=[.int .u64 (a:Nat)]:=ha;have hb:(cs.drop 1).take 1=[.int .u64 (b:Nat)]:=hb;refine ⟨(a,b),?_,ha8,hb8⟩;show cs=exC a b;have e:=seg cs 0 1;rw [List.drop_zero,seg cs (0+1) 1,List.drop_of_length_le (i:=0+1+1) (by omega)] at e;rw [List.drop_zero] at ha;rw [e,ha,hb];rfl
theorem op_dig:OpR enc W base held 32 23 (byR 32) (fun l=>l.length=32∧∀ b∈l,b < 256):=by
  intro fuel l x hl h;obtain ⟨xs,n,_,_,hlen,hxl,hf⟩:=DataW.trod_array Tryz.underlying23 h;have each:∀ i,i < 32→∃ a:Nat,l[i]?=some (.int .u8 (a:Nat))∧a < 256:=by
    intro i hi;have g:DataW.trod enc Tryz.prog W base (fun _=>true) held n 5 ((l.drop (i * Tryz.prog.cellsOf 5)).take (Tryz.prog.cellsOf 5))=some (xs[i]'(by omega)):=(hf i hi).trans (List.getElem?_eq_getElem _);rw [cl8,Nat.mul_one] at g;obtain ⟨m,e,_,w⟩:=DataW.trod_int Tryz.underlying5 g;obtain ⟨m,rfl,hm⟩:=wfc_u8 w;refine ⟨m,?_,hm⟩;have:=congrArg (·[0]?) e;rw [List.getElem?_take_of_lt (by omega),List.getElem?_drop,Nat.add_zero] at this;simpa using this
  obtain ⟨F,hF⟩:∃ F:Nat→Nat,∀ i,i < 32→l[i]?=some (.int .u8 (F i:Nat))∧F i < 256:=⟨fun i=>if hi:i < 32 then (each i hi).choose else 0,fun i hi=>by simp only [hi,dite_true];exact (each i hi).choose_spec⟩;refine ⟨(List.range 32).map F,⟨?_,by simp⟩,by simp,fun x hx=>?_⟩
  · apply List.ext_getElem?;intro i;rcases Nat.lt_or_ge i 32 with hi | hi
    · rw [(hF i hi).1,q9s (show ((List.range 32).map F)[i]?=some (F i) by rw [List.getElem?_map,List.getElem?_range hi];rfl)]
    · rw [List.getElem?_eq_none (by omega),List.getElem?_eq_none (by rw [q0t];simp;omega)]
  · obtain ⟨i,hi,rfl⟩:=List.mem_map.1 hx;exact (hF i (List.mem_range.1 hi)).2
theorem op_ro:OpR enc W base held 1 35 (slR 2 exR) (fun l=>∀ e∈l,E64 e):=op_sl Tryz.underlying35 clE (by decide) op_ex
theorem op_rd:OpR enc W base held 1 28 (slR 1 (slR 2 exR)) (fun l=>∀ r∈l,∀ e∈r,E64 e):=op_sl Tryz.underlying28 clRo (by decide) op_ro
theorem op_co:OpR enc W base held 1 36 (slR 1 (slR 1 (numR .u64))) (fun l=>∀ r∈l,∀ e∈r,e < 18446744073709551616):=op_sl Tryz.underlying36 clU (by decide) (op_sl Tryz.underlying69 cl64 (by decide) op_u64)
theorem op_sums:OpR enc W base held 1 26 (slR 1 sumR) (fun l=>∀ e∈l,e < 18446744073709551616):=op_sl Tryz.underlying26 cli64 (by decide) op_sum
theorem op_digs:OpR enc W base held 1 37 (slR 32 (byR 32)) (fun l=>∀ e∈l,e.length=32∧∀ b∈e,b < 256):=op_sl Tryz.underlying37 clD (by decide) op_dig
instance:Inhabited Ce.LP:=⟨⟨[],(0,0),(0,0),[]⟩⟩
theorem op_lp:OpR enc W base held 6 99 lpR LpE:=by
  intro fuel cs x hl h;obtain ⟨n,hf⟩:=flds Tryz.underlying99 h;obtain ⟨y0,g0⟩:=hf 0 0 1 28 rfl clRs;obtain ⟨y1,g1⟩:=hf 1 1 2 34 rfl clE;obtain ⟨y2,g2⟩:=hf 2 3 2 34 rfl clE;obtain ⟨y3,g3⟩:=hf 3 5 1 35 rfl clRo;obtain ⟨a,ha,qa⟩:=op_rd n _ _ (by simp;omega) g0;obtain ⟨b,hb,qb⟩:=op_ex n _ _ (by simp;omega) g1;obtain ⟨c,hc,qc⟩:=op_ex n _ _ (by simp;omega) g2;obtain ⟨d,hd,qd⟩:=op_ro n _ _ (by simp;omega) g3;have hb:(cs.drop 1).take 2=exC b.1 b.2:=hb;have hc:(cs.drop 3).take 2=exC c.1 c.2:=hc;obtain ⟨u,hu⟩:=q2f ha;obtain ⟨v,hv⟩:=q2f hd;rw [hu] at ha;rw [hv] at hd;refine ⟨⟨a,b,c,d⟩,⟨u,v,?_,ha,hd⟩,⟨qa,qb,qc,qd⟩⟩;have e:=seg cs 0 1;rw [List.drop_zero,seg cs (0+1) 2,seg cs (0+1+2) 2,seg cs (0+1+2+2) 1,List.drop_of_length_le (i:=0+1+2+2+1) (by omega)] at e;rw [List.drop_zero] at hu;rw [e,hu,hb,hc,hv];rfl
theorem op_ls:OpR enc W base held 1 29 (slR 6 lpR) (fun l=>∀ e∈l,LpE e):=op_sl Tryz.underlying29 clL (by decide) op_lp
theorem z3o {α:Type} {size:Nat} {R:Rep α} {N:Nat→Prop} {w:World} {x:List Value} {l:List α} (h:slR size R N w x l):∃ v,x=[v]∧slR size R N w [v] l:=by
  obtain ⟨v,rfl⟩:=q2f h;exact ⟨v,rfl,h⟩
set_option maxRecDepth 100000 in
theorem open_cert {v:Value} {d:DataW H} {p:List MemPlace} (h:DataW.Trod enc Tryz.prog W 0 (fun _=>true) true 43 v d p) :
    ∃ (c:Ce.Cert) (lg a b d e:Int) (qb:ByteArray) (s1 p1 p2 p3 b1 o1 o2 o3 o4:Value),v=.agg (rawC c lg a b d e qb s1 p1 p2 p3 b1 o1 o2 o3 o4).toArray∧CerAt (fun k=>k < W.heap.size) W c qb s1 p1 p2 p3 b1 o1 o2 o3 o4∧RawE c∧Ce.Raw8 c:=by
  obtain ⟨fuel,h⟩:=h;obtain ⟨_,_,_,_,hlen,_,_⟩:=DataW.trod_struct Tryz.underlying43 h;rw [show Tryz.prog.cellsOf 43=49 by kernel_rfl] at hlen;obtain ⟨cs,rfl,hl⟩:∃ l:List Value,v=.agg l.toArray∧l.length=49:=by
    cases v with
    | agg a=>exact ⟨a.toList,by simp,by simpa [Value.cells] using hlen⟩
    | _=>simp [Value.cells] at hlen
  have h:DataW.trod enc Tryz.prog W 0 (fun _=>true) true fuel 43 cs=some (d,p):=by simpa [Value.cells] using h
  obtain ⟨n,hf⟩:=flds Tryz.underlying43 h;obtain ⟨y0,g0⟩:=hf 0 0 1 9 rfl clS;obtain ⟨y1,g1⟩:=hf 1 1 1 3 rfl cli;obtain ⟨y2,g2⟩:=hf 2 2 32 23 rfl clD;obtain ⟨y3,g3⟩:=hf 3 34 4 25 rfl clSh;obtain ⟨y4,g4⟩:=hf 4 38 1 26 rfl clI;obtain ⟨y5,g5⟩:=hf 5 39 3 31 rfl clPr;obtain ⟨y6,g6⟩:=hf 6 42 1 28 rfl clRs;obtain ⟨y7,g7⟩:=hf 7 43 2 34 rfl clE;obtain ⟨y8,g8⟩:=hf 8 45 4 41 rfl clPx;obtain ⟨qb,e0,_,_⟩:=DataW.trod_string Tryz.underlying9 g0;obtain ⟨lg,e1,_,_⟩:=DataW.trod_int Tryz.underlying3 g1;obtain ⟨root,⟨e2,rl⟩,_,r8⟩:=op_dig n _ _ (by simp;omega) g2;obtain ⟨n3,hf3⟩:=flds Tryz.underlying25 g3;obtain ⟨_,g30⟩:=hf3 0 0 1 3 rfl cli;obtain ⟨_,g31⟩:=hf3 1 1 1 3 rfl cli;obtain ⟨_,g32⟩:=hf3 2 2 1 3 rfl cli;obtain ⟨_,g33⟩:=hf3 3 3 1 3 rfl cli;obtain ⟨a,e30,_,_⟩:=DataW.trod_int Tryz.underlying3 g30;obtain ⟨b,e31,_,_⟩:=DataW.trod_int Tryz.underlying3 g31;obtain ⟨dd,e32,_,_⟩:=DataW.trod_int Tryz.underlying3 g32;obtain ⟨ee,e33,_,_⟩:=DataW.trod_int Tryz.underlying3 g33;obtain ⟨sums,h4,q4⟩:=op_sums n _ _ (by simp;omega) g4;obtain ⟨n5,hf5⟩:=flds Tryz.underlying31 g5;obtain ⟨_,g50⟩:=hf5 0 0 1 28 rfl clRs;obtain ⟨_,g51⟩:=hf5 1 1 1 29 rfl clLs;obtain ⟨_,g52⟩:=hf5 2 2 1 29 rfl clLs;obtain ⟨rows,h50,q50⟩:=op_rd n5 _ _ (by simp;omega) g50;obtain ⟨ps,h51,q51⟩:=op_ls n5 _ _ (by simp;omega) g51;obtain ⟨pz,h52,q52⟩:=op_ls n5 _ _ (by simp;omega) g52;obtain ⟨batch,h6,q6⟩:=op_rd n _ _ (by simp;omega) g6;obtain ⟨vv,e7,q7⟩:=op_ex n _ _ (by simp;omega) g7;obtain ⟨n8,hf8⟩:=flds Tryz.underlying41 g8;obtain ⟨_,g80⟩:=hf8 0 0 1 35 rfl clRo;obtain ⟨_,g81⟩:=hf8 1 1 1 35 rfl clRo;obtain ⟨_,g82⟩:=hf8 2 2 1 36 rfl clUU;obtain ⟨_,g83⟩:=hf8 3 3 1 39 rfl clOp;obtain ⟨n9,hf9⟩:=flds Tryz.underlying39 g83;obtain ⟨_,g90⟩:=hf9 0 0 1 37 rfl clDs;obtain ⟨orow,h80,q80⟩:=op_ro n8 _ _ (by simp;omega) g80;obtain ⟨ornd,h81,q81⟩:=op_ro n8 _ _ (by simp;omega) g81;obtain ⟨cols,h82,q82⟩:=op_co n8 _ _ (by simp;omega) g82;obtain ⟨nodes,h90,q90⟩:=op_digs n9 _ _ (by simp;omega) g90;clear g0 g1 g2 g3 g30 g31 g32 g33 g4 g5 g50 g51 g52 g6 g7 g8 g80 g81 g82 g83 g90 hf hf3 hf5 hf8 hf9 h;obtain ⟨s1,e4,h4⟩:=z3o h4;obtain ⟨p1,e50,h50⟩:=z3o h50;obtain ⟨p2,e51,h51⟩:=z3o h51;obtain ⟨p3,e52,h52⟩:=z3o h52;obtain ⟨b1,e6,h6⟩:=z3o h6;obtain ⟨o1,e80,h80⟩:=z3o h80;obtain ⟨o2,e81,h81⟩:=z3o h81;obtain ⟨o3,e82,h82⟩:=z3o h82;obtain ⟨o4,e90,h90⟩:=z3o h90;have e7:(cs.drop 43).take 2=exC vv.1 vv.2:=e7;refine ⟨⟨sb qb,0,root,0,0,0,0,sums,rows,ps,pz,batch,vv,orow,ornd,cols,nodes⟩,lg,a,b,dd,ee,qb,s1,p1,p2,p3,b1,o1,o2,o3,o4,?_,⟨rfl,h4,h50,h51,h52,h6,h80,h81,h82,h90⟩,⟨rl,q50,q51,q52,q6,q7,q80,q81,q82⟩,⟨z0q qb,⟨rl,r8⟩,q4,q90⟩⟩;have E3:(cs.drop 34).take 4=[.int .i64 a,.int .i64 b,.int .i64 dd,.int .i64 ee]:=by
    generalize hS:(cs.drop 34).take 4=S at *;have hSl:S.length=4:=(by rw [← hS];simp;omega);have e:=seg S 0 1;rw [List.drop_zero,seg S (0+1) 1,seg S (0+1+1) 1,seg S (0+1+1+1) 1,List.drop_of_length_le (i:=0+1+1+1+1) (by omega)] at e;rw [List.drop_zero] at e30;rw [e,e30,e31,e32,e33];rfl
  have E5:(cs.drop 39).take 3=[p1,p2,p3]:=by
    generalize hS:(cs.drop 39).take 3=S at *;have hSl:S.length=3:=(by rw [← hS];simp;omega);have e:=seg S 0 1;rw [List.drop_zero,seg S (0+1) 1,seg S (0+1+1) 1,List.drop_of_length_le (i:=0+1+1+1) (by omega)] at e;rw [List.drop_zero] at e50;rw [e,e50,e51,e52];rfl
  have E8:(cs.drop 45).take 4=[o1,o2,o3,o4]:=by
    generalize hS:(cs.drop 45).take 4=S at *;have hSl:S.length=4:=(by rw [← hS];simp;omega);generalize hZ:(S.drop 3).take 1=Z at *;have hZl:Z.length=1:=(by rw [← hZ];simp;omega);have e:=seg S 0 1;rw [List.drop_zero,seg S (0+1) 1,seg S (0+1+1) 1,seg S (0+1+1+1) 1,List.drop_of_length_le (i:=0+1+1+1+1) (by omega)] at e;rw [List.drop_zero] at e80 e90;rw [List.take_of_length_le (by omega)] at e90;rw [e,e80,e81,e82,hZ,e90];rfl
  have e:=seg cs 0 1;rw [List.drop_zero,seg cs (0+1) 1,seg cs (0+1+1) 32,seg cs (0+1+1+32) 4,seg cs (0+1+1+32+4) 1,seg cs (0+1+1+32+4+1) 3,seg cs (0+1+1+32+4+1+3) 1,seg cs (0+1+1+32+4+1+3+1) 2,seg cs (0+1+1+32+4+1+3+1+2) 4,List.drop_of_length_le (i:=0+1+1+32+4+1+3+1+2+4) (by omega)] at e;rw [List.drop_zero] at e0;rw [e0,e1,e2,E3,e4,E5,e6,e7,E8] at e;rw [e];unfold rawC dC exC;simp
end
end Go.Proofs.YtbolofkandcnlaaGreatDoor
namespace Go.Proofs.K
open Go.ChangeShapes
theorem z0t {a:Assume} {C:Checked} {os:Os} {f:FuncId} {r:Reach} {Pre:World→Array Value→Prop} {Post:World→Array Value→Value→World→Prop} (h:ReturnsInHanded a C os f r Pre Post) (he:C.prog.mayEnter=true) :
    ReturnsInOpen a none C os f r Input.okWide Pre Post (leavingAtReturn C.prog) nothingAlways:=by
  obtain ⟨g0,g1,g2,g3,all⟩:=h he;refine ⟨g0,g1,g2,g3,fun w tape i hf=>?_⟩;obtain ⟨n,v,w',hn,hc,hr,hp,⟨j,last,hj,hs,hq,hh,hE⟩,ha⟩:=all w tape i hf;exact ⟨n,v,w',hn,hc,hr,hp,⟨j,last,hj,hs,hh,onlyLeaving_of_quiet hq,hE⟩,ha⟩
theorem z3u {p:Pinned} {s:OpenSpec} {c:OpenClaim} (f:FuncId) (fn:Func)
    (hn:c.program=p.name) (hs:c.sum=p.sum) (hsp:c.spec=s.name)
    (hstart:c.start=.entering) (hout:c.outside=[]) (hin:c.inits=[]) (hun:c.under=none) (hi4:c.initsInPlace=[]∧c.initsUnfollowed=false∧c.initsRecurse=false∧c.initsNamed=[]∧c.initsPassed=[]) (hnb:c.noBlocks=false) (hlv:c.leaving=true) (hfo:c.followed=none) (hnar:c.narrowed=s.cond.isSome) (hstill:c.still=false)
    (hfn:p.checked.prog.funcNamed c.func=some f) (hf:p.checked.prog.funcs[f]?=some fn)
    (closed:joinedFacts p.checked.prog f fn s.bare c=true)
    (hinst:fn.isInstance p.checked.prog c.origin c.targs) (hwrap:fn.isWrapper p.checked.prog c.wrapper c.mainSum)
    (h:∀ os:Os,os.Started→∀ (H:Type) (enc:TypeId × Value→H),(∀ a b,enc a=enc b→a=b)→∀ F:Stop.Interp,
      ReturnsInHanded c.assume p.checked os f .any (c.pre enc p.checked.prog fn s) ((s.at F).post enc p.checked.prog fn c.apart c.fresh c.handsOn c.again)):c.holds p s:=by
  simp only [joinedFacts,Bool.and_eq_true,beq_iff_eq,Array.all_eq_true_iff_forall_mem,List.all_eq_true,decide_eq_true_eq] at closed;obtain ⟨⟨⟨⟨⟨⟨⟨⟨⟨⟨⟨⟨⟨⟨⟨⟨⟨⟨⟨⟨⟨⟨⟨⟨⟨⟨⟨⟨⟨⟨⟨k1,k2⟩,k3⟩,k4⟩,k5⟩,k6⟩,k7⟩,k8⟩,k9⟩,k10⟩,k11⟩,k12⟩,k13⟩,k14⟩,k15⟩,k16⟩,k17⟩,k17b⟩,k18⟩,k19⟩,k20⟩,k21⟩,k22⟩,k23⟩,k23b⟩,k24⟩,k24b⟩,k24c⟩,k25⟩,k26⟩,k27⟩,k28⟩:=closed;have hq:∀ os:Os,Stop.quiet p.checked.prog os:=fun os k hk=>by rw [k9] at hk;cases hk
  refine ⟨k1,hn,hs,hsp,k2,k3,by unfold OpenClaim.startFits;rw [hstart];exact k24,by unfold OpenClaim.startTold;rw [hstart];exact ⟨hin,hun,hi4⟩,f,fn,hfn,hf,⟨k4,k19⟩,(fun hb=>by rw [hnb] at hb;cases hb),by unfold OpenClaim.namedList;rw [hfo];exact k5,hinst,hwrap,
    k6.trans k7.symm,⟨k8.trans k9.symm,by unfold Program.envWorded;rw [k9];rfl,k23b⟩,k10,k11,k12,k13,k14,⟨k15,k27,k28⟩,⟨k16,k20⟩,⟨k17,k21,k25,k26⟩,⟨k22,k24b,k24c,k17b⟩,(by rw [hout,hnar];cases hsh:c.shortTexts with | none=>simp | some _=>rw [hsh] at k23;cases k23),fun n hn'=>varReadable_some (k18 n hn'),
    ⟨_,by unfold OpenClaim.world;rw [hout,hstart];exact WideRow.started_initial,hq _⟩,[],by unfold OpenClaim.lists;rw [hfo],fun os st _ H enc inj=>?_⟩
  have st':os.Started:=by unfold OpenClaim.world at st;rw [hout,hstart] at st;exact st
  rw [OpenClaim.post_not_still hstill];unfold OpenClaim.form;rw [hstart,k6];intro F;have e1:c.okInput=Input.okWide:=by unfold OpenClaim.okInput;rw [hnb]
  have e2:c.atReturn p.checked.prog=leavingAtReturn p.checked.prog:=by unfold OpenClaim.atReturn;rw [hlv]
  have e3:c.always p.checked.prog []=nothingAlways:=by unfold OpenClaim.always;rw [hfo]
  have e4:s.post enc p.checked.prog fn F c.outside c.apart c.fresh c.handsOn c.again=(s.at F).post enc p.checked.prog fn c.apart c.fresh c.handsOn c.again:=by rw [hout];rfl
  rw [e1,e2,e3];show ReturnsInOpen _ _ _ _ _ _ _ _ (s.post enc p.checked.prog fn F c.outside c.apart c.fresh c.handsOn c.again) _ _;rw [e4];exact z0t (h os st' H enc inj F) k24
theorem tied_goes {p:Pinned} {s:OpenSpec} {c:OpenClaim} (kinds:List LaidKind) (tests:Bool) (har:Bool × String) (lk:Bool)
    (hc:c.holds p s) (hw:c.wfByText s=true) (htie:c.laidByTextAt .later p kinds tests)
    (hst:c.start=.entering) (hnb:c.noBlocks=false∧c.again=false) (hm:p.checked.prog.mainIs=some (har.1,har.2.toList)) (hn:(!har.1 && har.2.isEmpty && !lk)=false)
    (hl:∀ f fn,p.checked.prog.funcNamed c.func=some f→p.checked.prog.funcs[f]?=some fn→lk=p.checked.prog.looks []∧∀ (j:Nat) t,fn.params[j]?=some t→p.checked.prog.wantsStandIn t=false)
    (hg:true=c.goesBy p.checked.prog) :
    Claim7.holds p (.plain s) { stood:={ row:=c,standIns:=[],harness:=har,looks:=lk },kinds:=[],alts:=[],goes:=true,laidByText:=true,laidKinds:=kinds,laidTests:=tests,laidLooks:=.later }:=by
  have h6:∀ r:OpenClaim,Claim7.isSixth { stood:={ row:=r,standIns:=[],harness:=har,looks:=lk },kinds:=[] }=false:=fun r=>by simpa [Claim7.isSixth] using hn
  exact ⟨Claim7.tied_new_at .later kinds tests (Claim7.new_of_sixth hc har lk hst hnb hm (h6 c) hl) hw,(fun D hD=>by cases hD),htie,(fun h=>by cases h),hg⟩
end Go.Proofs.K
namespace Go.Proofs.YtbolofkandcnlaaGreatDoor
open Go.RowKit Go.Proofs.K Go.ChangeShapes Go.WideShapes Go.ChangeAt
section
variable {H:Type} {enc:TypeId × Value→H} {W:World} {v:Value} {d:DataW H} {p:List MemPlace} {b0:Nat}
set_option maxRecDepth 100000 in
theorem open_bs (hv:Value.okWide Tryz.prog W .any b0 44 v) (h:DataW.Trod enc Tryz.prog W 0 (fun _=>true) true 44 v d p):∃ l:List Nat,RowN (fun _=>True) W 1 v l.length (ints .u8 l)∧∀ x∈l,x < 256:=by
  obtain ⟨fuel,h⟩:=h;obtain ⟨a,len,cap,rfl⟩:=okWide_slice Tryz.underlying44 hv;obtain ⟨l,hr,h8⟩:=row_of_bytes Tryz.underlying44 Tryz.underlying5 cl8 h;exact ⟨l,RowN.ofAny hr,h8⟩
end
end Go.Proofs.YtbolofkandcnlaaGreatDoor
