/- QM, SH, R7, R8, R9, RA, S1, S2, S3, S4, S5, S6, S7, TP, KT, RB, RC, S8, QN, A1, S9, SA. -/
import Derived.Test.YtbolofkandcnlaaGreatDoorTie
import Derived.JoinedOf
import Derived.Test.YtbolofkandcnlaaGreatDoorQ1
import Derived.Test.YtbolofkandcnlaaGreatDoorQ2
import Derived.Laws.CopyRow
import Derived.Laws.AppendOwn
import Derived.Test.YtbolofkandcnlaaGreatDoorQ5
namespace Go.Proofs.YtbolofkandcnlaaGreatDoor.match22
open Go
set_option maxRecDepth 100000
theorem cl:Tryz.prog.closure 3=[3,4,6,22,23,69,113,68,70,114,71,73,72,75,78,115,79,74,77,76,81,117,116,80,82,14,65,97,127,182,183,286,287,288,289,185,184,186,128,187,129,188,98,130,131,132,189,133,190,99,100,134,191,279,255,332,333,290,360,427,291,361,293,363,292,362,192,294,364,365,295,366,367,368,428,460,445,468,469,461,477,429,462,463,478,481,482,318,377,266,344,411,156,249,464,136,195,299,196,135,194,298,122,178,89,119,175,121,120,176,177,193,296,297,9,32,31,33,85,34,36,35,38,41,86,42,37,40,39,44,87,43,45,15,8,13,59,60,61,95,94,62,63,64,96,16,66,101,137,158,197,138,202,302,371,203,204,303,198,159,139,205,199,300,369,430,465,479,480,370,431,466,432,433,160,250,327,397,398,442,443,399,400,444,467,434,200,301,305,201,102,140,206,207,304,208,209,141,210,306,307,373,309,142,372,435,308,374,436,211,212,213,214,310,375,215,103,143,144,216,217,311,225,317,223,218,312,219,313,146,221,147,222,224,314,316,315,376,145,220,164,265,148,226,149,104,150,227,233,228,229,235,236,151,230,231,152,232,234,237,238,153,239,240,241,242,243,319,105,154,244,320,155,246,248,247,325,326,396,245,321,378,379,380,381,382,383,384,437,385,438,386,387,439,388,440,389,390,322,323,324,391,392,393,441,394,395,106,157,107,161,251,328,401,329,402,252,253,109,11,53,54,91,90,55,108,163,263,172,277,264,165,267,268,162,254,330,331,256,111,170,171,258,257,270,346,412,274,335,403,260,336,334,259,261,167,273,275,350,349,169,276,351,413,262,337,271,404,447,470,446,405,448,471,338,406,449,472,450,473,339,340,407,451,341,342,408,343,409,410,452,474,475,110,166,269,345,272,347,348,168,112,173,278,352,415,414,453,353,280,281,282,354,416,355,283,356,357,417,418,454,174,284,358,285,359,419,420,455,421,456,457,422,458,459,476,423,424,425,426,5,17,67,18,20,19,21,7,24,25,26,27,83,29,84,118,28,30,10,46,88,47,48,49,52,51,50,12,57,93,123,124,125,179,181,180,126,56,92,58]:=by kernel_rfl
theorem f1:(Rows.certificateMatchesReferenceRow.inPlace == Tryz.prog.inPlace 3)=true:=by unfold Program.inPlace;rw [cl];kernel_rfl
theorem f2:(Rows.certificateMatchesReferenceRow.unfollowed == Tryz.prog.unfollowed 3)=true:=by unfold Program.unfollowed;rw [cl];kernel_rfl
theorem f3:(Rows.certificateMatchesReferenceRow.recurses == Tryz.prog.recurses 3)=true:=by unfold Program.recurses;rw [← eq_of_beq f2];rfl
theorem f4:(Rows.certificateMatchesReferenceRow.named == Tryz.prog.varsNamed 3)=true:=by unfold Program.varsNamed;rw [cl];kernel_rfl
theorem named:Tryz.prog.funcNamed Rows.certificateMatchesReferenceRow.func=some 3:=by kernel_rfl
theorem goes:true=Rows.certificateMatchesReferenceRow.goesBy Tryz.prog:=by
  unfold OpenClaim.goesBy Program.goesAt Program.goesFrom;rw [named,Option.any_some];unfold Program.goes;rw [cl];kernel_rfl
theorem and2 {a b:Bool} (h:a=true) (g:b=true):(a && b)=true:=by rw [h,g];rfl
theorem k0:(Rows.certificateMatchesReferenceRow.wf (OpenSpec.ofChange (OpenSpec.ofChange Rows.certificateMatchesReferenceSpec).bare))=true:=by kernel_rfl
theorem k1:(laidOutB Tryz.prog)=true:=by kernel_rfl
theorem k2:(mapsRowed Tryz.prog)=true:=by kernel_rfl
theorem k3:(Tryz.f3.params.all (Tryz.prog.readableRec ·))=true:=by kernel_rfl
theorem k4:(namedTie Tryz.prog Rows.certificateMatchesReferenceRow.named (OpenSpec.ofChange Rows.certificateMatchesReferenceSpec).bare.vars)=true:=by kernel_rfl
theorem k5:((Rows.certificateMatchesReferenceRow.stops == []))=true:=by kernel_rfl
theorem k6:((Tryz.prog.stops == []))=true:=by kernel_rfl
theorem k7:((Rows.certificateMatchesReferenceRow.knobs == []))=true:=by kernel_rfl
theorem k8:((Tryz.prog.stopKnobs == []))=true:=by kernel_rfl
theorem k13:((Rows.certificateMatchesReferenceRow.maps == (Tryz.f3.params.toList++(OpenSpec.ofChange Rows.certificateMatchesReferenceSpec).bare.plain.varTypes Tryz.prog).any (Tryz.prog.mapsRec ·)))=true:=by kernel_rfl
theorem k14:((Rows.certificateMatchesReferenceRow.ifaces == (Tryz.f3.params.toList++(OpenSpec.ofChange Rows.certificateMatchesReferenceSpec).bare.plain.varTypes Tryz.prog).any (Tryz.prog.ifacesRec ·)))=true:=by kernel_rfl
theorem k15:((Rows.certificateMatchesReferenceRow.mapsOut == Tryz.prog.mapsAmong Tryz.f3.resultTypes.toList))=true:=by kernel_rfl
theorem k16:((Rows.certificateMatchesReferenceRow.loops == (Tryz.f3.params.toList++(OpenSpec.ofChange Rows.certificateMatchesReferenceSpec).bare.plain.varTypes Tryz.prog).any (Tryz.prog.loopsFrom ·)))=true:=by kernel_rfl
theorem k17:((Rows.certificateMatchesReferenceRow.wideKeys == (Tryz.f3.params.toList++(OpenSpec.ofChange Rows.certificateMatchesReferenceSpec).bare.plain.varTypes Tryz.prog++Tryz.f3.resultTypes.toList).any (Tryz.prog.wideKeysFrom ·)))=true:=by kernel_rfl
theorem k18:((OpenSpec.ofChange Rows.certificateMatchesReferenceSpec).bare.vars.all (Tryz.prog.varReadable ·))=true:=by kernel_rfl
theorem k19:(Tryz.f3.resultTypes.all (fun t=>Tryz.prog.readableRec t && decide (t < Tryz.prog.types.size)))=true:=by kernel_rfl
theorem k20:((Rows.certificateMatchesReferenceRow.ifacesOut == Tryz.f3.resultTypes.toList.any (Tryz.prog.ifacesRec ·)))=true:=by kernel_rfl
theorem k21:((Rows.certificateMatchesReferenceRow.loopsOut == Tryz.f3.resultTypes.toList.any (Tryz.prog.loopsFrom ·)))=true:=by kernel_rfl
theorem k22:((Rows.certificateMatchesReferenceRow.plainKeys == Tryz.prog.plainKeys))=true:=by kernel_rfl
theorem k23:(Rows.certificateMatchesReferenceRow.shortTexts.isNone)=true:=by kernel_rfl
theorem k24:(Tryz.prog.stopsHeard)=true:=by kernel_rfl
theorem k25:(Tryz.prog.mayEnter)=true:=by kernel_rfl
theorem k26:((Rows.certificateMatchesReferenceRow.lifted == Tryz.prog.liftsFinal))=true:=by kernel_rfl
theorem k27:((Tryz.prog.make == some Rows.certificateMatchesReferenceRow.make))=true:=by kernel_rfl
theorem k28:((Rows.certificateMatchesReferenceRow.kinds == (if Rows.certificateMatchesReferenceRow.domain.isEmpty then [] else Tryz.f3.params.toList.map fun t=>match Tryz.prog.underlying t with | some (.int k)=>some k | _=>none)))=true:=by kernel_rfl
theorem k29:((Rows.certificateMatchesReferenceRow.pinned == Rows.certificateMatchesReferenceRow.pinnedBy))=true:=by kernel_rfl
theorem k30:((Rows.certificateMatchesReferenceRow.veiled == (Tryz.f3.params.toList++(OpenSpec.ofChange Rows.certificateMatchesReferenceSpec).bare.plain.varTypes Tryz.prog++Tryz.f3.resultTypes.toList).any (Tryz.prog.veiledRec ·)))=true:=by kernel_rfl
theorem k31:(Rows.certificateMatchesReferenceRow.veiledFits Tryz.prog Tryz.f3.params.toList (Tryz.f3.params.toList++(OpenSpec.ofChange Rows.certificateMatchesReferenceSpec).bare.plain.varTypes Tryz.prog++Tryz.f3.resultTypes.toList))=true:=by kernel_rfl
theorem closed:joinedFacts Tryz.prog 3 Tryz.f3 (OpenSpec.ofChange Rows.certificateMatchesReferenceSpec).bare Rows.certificateMatchesReferenceRow=true:=by
  unfold joinedFacts;exact and2 (and2 (and2 (and2 (and2 (and2 (and2 (and2 (and2 (and2 (and2 (and2 (and2 (and2 (and2 (and2 (and2 (and2 (and2 (and2 (and2 (and2 (and2 (and2 (and2 (and2 (and2 (and2 (and2 (and2 (and2 k0 k1) k2) k3) k4) k5) k6) k7) k8) f1) f2) f3) f4) k13) k14) k15) k16) k17) k18) k19) k20) k21) k22) k23) k24) k25) k26) k27) k28) k29) k30) k31
end Go.Proofs.YtbolofkandcnlaaGreatDoor.match22
namespace Go.Proofs.Sha
def rotr (x k:Nat):Nat:=(x / 2 ^ k) ||| (x * 2 ^ (32 - k) % 4294967296)
def ch (e f g:Nat):Nat:=(e &&& f) ^^^ ((4294967295 - e) &&& g)
def maj (a b c:Nat):Nat:=(a &&& b) ||| (a &&& c) ||| (b &&& c)
def be32 (b:List Nat) (i:Nat):Nat:=b.getD (4 * i) 0 * 16777216+b.getD (4 * i+1) 0 * 65536+b.getD (4 * i+2) 0 * 256+b.getD (4 * i+3) 0
def sg0 (x:Nat):Nat:=rotr x 7 ^^^ rotr x 18 ^^^ x / 8
def sg1 (x:Nat):Nat:=rotr x 17 ^^^ rotr x 19 ^^^ x / 1024
def wnext (b l:List Nat) (i:Nat):Nat:=if i < 16 then be32 b i else (l.getD (i - 16) 0+sg0 (l.getD (i - 15) 0)+l.getD (i - 7) 0+sg1 (l.getD (i - 2) 0)) % 4294967296
def sched (b:List Nat):Nat→List Nat
  | 0=>[]
  | i+1=>sched b i++[wnext b (sched b i) i]
structure S8 where
  a:Nat
  b:Nat
  c:Nat
  d:Nat
  e:Nat
  f:Nat
  g:Nat
  h:Nat
def S8.list (s:S8):List Nat:=[s.a,s.b,s.c,s.d,s.e,s.f,s.g,s.h]
def t1 (s:S8) (k w:Nat):Nat:=(s.h+(rotr s.e 6 ^^^ rotr s.e 11 ^^^ rotr s.e 25)+ch s.e s.f s.g+k+w) % 4294967296
def t2 (s:S8):Nat:=((rotr s.a 2 ^^^ rotr s.a 13 ^^^ rotr s.a 22)+maj s.a s.b s.c) % 4294967296
def round (s:S8) (k w:Nat):S8:=⟨(t1 s k w+t2 s) % 4294967296,s.a,s.b,s.c,(s.d+t1 s k w) % 4294967296,s.e,s.f,s.g⟩
def ks:List Nat:=[1116352408,1899447441,3049323471,3921009573,961987163,1508970993,2453635748,2870763221,3624381080,310598401,607225278,1426881987,1925078388,2162078206,2614888103,3248222580,3835390401,4022224774,264347078,604807628,770255983,1249150122,1555081692,1996064986,2554220882,2821834349,2952996808,3210313671,3336571891,3584528711,113926993,338241895,666307205,773529912,1294757372,1396182291,1695183700,1986661051,2177026350,2456956037,2730485921,2820302411,3259730800,3345764771,3516065817,3600352804,4094571909,275423344,430227734,506948616,659060556,883997877,958139571,1322822218,1537002063,1747873779,1955562222,2024104815,2227730452,2361852424,2428436474,2756734187,3204031479,3329325298]
def iv:S8:=⟨1779033703,3144134277,1013904242,2773480762,1359893119,2600822924,528734635,1541459225⟩
def rounds (s:S8) (ws:List Nat):Nat→S8
  | 0=>s
  | i+1=>round (rounds s ws i) (ks.getD i 0) (ws.getD i 0)
def addS (s t:S8):S8:=⟨(s.a+t.a) % 4294967296,(s.b+t.b) % 4294967296,(s.c+t.c) % 4294967296,(s.d+t.d) % 4294967296,(s.e+t.e) % 4294967296,(s.f+t.f) % 4294967296,(s.g+t.g) % 4294967296,(s.h+t.h) % 4294967296⟩
def compress (s:S8) (b:List Nat):S8:=addS s (rounds s (sched b 64) 64)
def blocks (p:List Nat):Nat→S8
  | 0=>iv
  | i+1=>compress (blocks p i) ((p.drop (64 * i)).take 64)
def zeros (n:Nat):Nat:=(119 - n % 64) % 64
def lenBytes (n:Nat):List Nat:=(List.range 8).map fun i=>(n * 8 / 2 ^ (56 - 8 * i)) % 256
def pad (l:List Nat):List Nat:=l++[128]++List.replicate (zeros l.length) 0++lenBytes l.length
def digest (s:S8):List Nat:=(List.range 32).map fun i=>s.list.getD (i / 4) 0 / 2 ^ (24 - 8 * (i % 4)) % 256
def sum (l:List Nat):List Nat:=digest (blocks (pad l) ((pad l).length / 64))
def S8.ok (s:S8):Prop:=s.a < 4294967296∧s.b < 4294967296∧s.c < 4294967296∧s.d < 4294967296∧s.e < 4294967296∧s.f < 4294967296∧s.g < 4294967296∧s.h < 4294967296
theorem rotr_lt {x k:Nat} (hx:x < 4294967296):rotr x k < 4294967296:=by
  have h1:x / 2 ^ k < 2 ^ 32:=Nat.lt_of_le_of_lt (Nat.div_le_self _ _) hx;have h2:x * 2 ^ (32 - k) % 4294967296 < 2 ^ 32:=Nat.mod_lt _ (by omega);exact Nat.or_lt_two_pow h1 h2
theorem xor_lt {a b:Nat} (ha:a < 4294967296) (hb:b < 4294967296):a ^^^ b < 4294967296:=Nat.xor_lt_two_pow (n:=32) ha hb
theorem and_lt {a b:Nat} (hb:b < 4294967296):a &&& b < 4294967296:=Nat.and_lt_two_pow (n:=32) _ hb
theorem or_lt {a b:Nat} (ha:a < 4294967296) (hb:b < 4294967296):a ||| b < 4294967296:=Nat.or_lt_two_pow (n:=32) ha hb
theorem sched_len (b:List Nat) (i:Nat):(sched b i).length=i:=by
  induction i with
  | zero=>rfl
  | succ i ih=>simp [sched,ih]
def bytesOk (l:List Nat):Prop:=∀ x∈l,x < 256
theorem getD_lt {l:List Nat} {B i:Nat} (h:∀ x∈l,x < B) (hB:0 < B):l.getD i 0 < B:=by
  rw [List.getD_eq_getElem?_getD];cases hi:l[i]? with
  | none=>exact hB
  | some x=>exact h x (List.mem_of_getElem? hi)
theorem be32_lt {b:List Nat} (h:bytesOk b) (i:Nat):be32 b i < 4294967296:=by
  have h0:=getD_lt (i:=4 * i) h (by omega);have h1:=getD_lt (i:=4 * i+1) h (by omega);have h2:=getD_lt (i:=4 * i+2) h (by omega);have h3:=getD_lt (i:=4 * i+3) h (by omega);unfold be32;omega
theorem wnext_lt {b l:List Nat} (h:bytesOk b) (i:Nat):wnext b l i < 4294967296:=by
  unfold wnext;split
  · exact be32_lt h i
  · exact Nat.mod_lt _ (by omega)
theorem sched_ok {b:List Nat} (h:bytesOk b) (i:Nat):∀ x∈sched b i,x < 4294967296:=by
  induction i with
  | zero=>intro x hx;simp [sched] at hx
  | succ i ih =>
    intro x hx;simp only [sched,List.mem_append,List.mem_singleton] at hx;rcases hx with hx | rfl
    · exact ih x hx
    · exact wnext_lt h i
theorem round_ok {s:S8} (h:s.ok) (k w:Nat):(round s k w).ok:=by
  obtain ⟨h1,h2,h3,h4,h5,h6,h7,h8⟩:=h;exact ⟨Nat.mod_lt _ (by omega),h1,h2,h3,Nat.mod_lt _ (by omega),h5,h6,h7⟩
theorem rounds_ok {s:S8} (h:s.ok) (ws:List Nat) (i:Nat):(rounds s ws i).ok:=by
  induction i with
  | zero=>exact h
  | succ i ih=>exact round_ok ih _ _
theorem addS_ok (s t:S8):(addS s t).ok:=by
  refine ⟨?_,?_,?_,?_,?_,?_,?_,?_⟩ <;> exact Nat.mod_lt _ (by omega)
theorem iv_ok:iv.ok:=by unfold S8.ok iv;decide
theorem blocks_ok (p:List Nat) (i:Nat):(blocks p i).ok:=by
  cases i with
  | zero=>exact iv_ok
  | succ i=>exact addS_ok _ _
theorem list_len (s:S8):s.list.length=8:=rfl
theorem ks_len:ks.length=64:=by rfl
theorem ks_ok:∀ x∈ks,x < 4294967296:=by decide
theorem pad_mod (n:Nat):(n+1+zeros n) % 64=56:=by unfold zeros;omega
theorem pad_len (l:List Nat):(pad l).length=l.length+1+zeros l.length+8:=by simp [pad,lenBytes];omega
theorem digest_len (s:S8):(digest s).length=32:=by simp [digest]
theorem sum_len (l:List Nat):(sum l).length=32:=digest_len _
end Go.Proofs.Sha
namespace Go.Proofs.YtbolofkandcnlaaGreatDoor
open Go.RowKit Go.Proofs.K
theorem rotr_walk (x m:Nat) (hx:x < 4294967296) (hm:0 < m∧m < 32) :
    bits BinOp.or IntKind.u32 ((x:Int).fdiv (2 ^ min ((m:Nat):Int).toNat IntKind.u32.bits)) (IntKind.u32.wrap ((x:Int) * 2 ^ min ((32:Int) - (m:Nat)).toNat IntKind.u32.bits))=((Sha.rotr x m:Nat):Int):=by
  have e:IntKind.u32.bits=32:=rfl;rw [e,Nat.min_eq_left (by omega),Nat.min_eq_left (by omega),q9w];have e3:((32:Int) - (m:Nat)).toNat=32 - m:=by omega
  have e2:(x:Int) * 2 ^ (32 - m)=((x * 2 ^ (32 - m):Nat):Int):=by simp
  rw [e3,e2,z3h,q6e _ _ (Nat.lt_of_le_of_lt (Nat.div_le_self _ _) hx) (Nat.mod_lt _ (by omega))];simp [Sha.rotr]
set_option maxHeartbeats 400000 in
theorem q9b (x m:Nat) (hx:x < 4294967296) (hm:0 < m∧m < 32) (w:World) :
    Calls Tryz.prog 181 #[.int .u32 (x:Nat),.int .i64 (m:Nat)] w fun e w'=>e=.returned (.int .u32 ((Sha.rotr x m:Nat):Int))∧Ext w w':=by
  refine q0l Tryz.func181 rfl Tryz.ntmps181 rfl ?_;(refine q0b<|q0a<|a_I rfl<|q0c<|tn<|q0b ?_);apply q1r 9 (by kernel_rfl);(apply DW_x (fun r w hA hH=>(q0d (v:=.int _ _) rfl).trans rfl);apply DW_x (fun r w hA hH=>(q0d (v:=.int _ _) rfl).trans rfl);apply DW_x (fun r w hA hH=>(q4g rfl rfl (by omega)).trans rfl);apply DW_x (fun r w hA hH=>(q0d (v:=.int _ _) rfl).trans rfl);apply DW_x (fun r w hA hH=>(q0d (v:=.int _ _) rfl).trans rfl);apply DW_x (fun r w hA hH=>(q2q rfl rfl (by omega)).trans rfl);apply DW_x (fun r w hA hH=>(q6h rfl rfl (by omega)).trans rfl);apply DW_x (fun r w hA hH=>(X_or rfl rfl).trans rfl);apply DW_x (fun r w hA hH=>(q0e (v:=.int _ _) rfl).trans rfl));((with_reducible exact q2e);(exact rfl);(repeat (first | exact .inr (.inr (fun _ _=>by with_reducible rfl)) | (refine And.intro ?_ ?_) | exact .inr (.inl rfl) | exact .inl (by decide +kernel) | exact trivial | exact .inr (.inr (fun _ _=>rfl))));(try dsimp only [Nat.reduceAdd]));intro r w1 E1 hH;(refine q0c<|tn<|q0r ?_);refine q0i rfl rfl (v:=.int _ _) rfl ?_;exact ⟨by rw [rotr_walk x m hx hm],E1⟩
set_option maxHeartbeats 400000 in
theorem constants (w:World) :
    Calls Tryz.prog 180 #[] w fun e w'=>e=.returned (.agg (ints .u32 Sha.ks).toArray)∧Ext w w':=by
  refine q0l Tryz.func180 rfl Tryz.ntmps180 rfl ?_;(refine q0b<|q0a ?_);refine q0z ?_;intro g1 w1 B1 hg1 E1 hs1;(refine q0c<|tn<|q0b<|q0a ?_);refine Ls (z2g (vs:=ints .u32 Sha.ks) rfl rfl rfl q0w) ?_;refine q0m (l:=ints .u32 Sha.ks) rfl rfl rfl q0w B1 rfl ?_;intro w2 B2 hg2 _;(refine q0c<|tn<|q0r ?_);refine q1h rfl rfl (Res.cellA inferInstance rfl (B2.range (fun j u h=>by simpa using h)) rfl .nil) ?_;exact ⟨rfl,E1.then hg2 (fun g h=>by cases h;omega)⟩
set_option maxHeartbeats 400000 in
theorem initial (w:World) :
    Calls Tryz.prog 123 #[] w fun e w'=>e=.returned (.agg (ints .u32 Sha.iv.list).toArray)∧Ext w w':=by
  refine q0l Tryz.func123 rfl Tryz.ntmps123 rfl ?_;(refine q0b<|q0a ?_);refine q0z ?_;intro g1 w1 B1 hg1 E1 hs1;(refine q0c<|tn<|q0b<|q0a ?_);refine Ls (z2g (vs:=ints .u32 Sha.iv.list) rfl rfl rfl q0w) ?_;refine q0m (l:=ints .u32 Sha.iv.list) rfl rfl rfl q0w B1 rfl ?_;intro w2 B2 hg2 _;(refine q0c<|tn<|q0r ?_);refine q1h rfl rfl (Res.cellA inferInstance rfl (B2.range (fun j u h=>by simpa using h)) rfl .nil) ?_;exact ⟨rfl,E1.then hg2 (fun g h=>by cases h;omega)⟩
theorem be_walk (a b c d:Nat) (ha:a < 256) (hb:b < 256) (hc:c < 256) (hd:d < 256) :
    IntKind.u32.wrap (IntKind.u32.wrap (IntKind.u32.wrap (IntKind.u32.wrap (IntKind.u32.wrap (a:Int) * 16777216)+IntKind.u32.wrap (IntKind.u32.wrap (b:Int) * 65536))+IntKind.u32.wrap (IntKind.u32.wrap (c:Int) * 256))+IntKind.u32.wrap (d:Int))=((a * 16777216+b * 65536+c * 256+d:Nat):Int):=by
  simp only [IntKind.wrap_u32];omega
theorem z3p (x a b c:Nat) (hx:x < 4294967296) (hc:c≤32):bits BinOp.xor IntKind.u32 (bits BinOp.xor IntKind.u32 ((Sha.rotr x a:Nat):Int) ((Sha.rotr x b:Nat):Int)) ((x:Int).fdiv (2 ^ min (Int.toNat (c:Nat)) IntKind.u32.bits))=((Sha.rotr x a ^^^ Sha.rotr x b ^^^ x / 2 ^ c:Nat):Int):=by
  rw [q3v _ _ (Sha.rotr_lt hx) (Sha.rotr_lt hx),show IntKind.u32.bits=32 from rfl,show min (Int.toNat ((c:Nat):Int)) 32=c by omega,q9w,
    q3v _ _ (Sha.xor_lt (Sha.rotr_lt hx) (Sha.rotr_lt hx)) (Nat.lt_of_le_of_lt (Nat.div_le_self _ _) hx)]
theorem wr3 (a b c d:Nat):IntKind.u32.wrap (IntKind.u32.wrap (IntKind.u32.wrap ((a:Int)+(b:Nat))+(c:Nat))+(d:Nat))=(((a+b+c+d) % 4294967296:Nat):Int):=by
  simp only [IntKind.wrap_u32];omega
set_option maxHeartbeats 1000000 in
theorem schedule (lo hi:Nat) (v:Value) (bl:List Nat) (hlen:bl.length=64) (hb:Sha.bytesOk bl) (w:World) (hr:Row w lo hi 1 v 64 (ints .u8 bl)) :
    Calls Tryz.prog 179 #[v] w fun e w'=>e=.returned (.agg (ints .u32 (Sha.sched bl 64)).toArray)∧Ext w w':=by
  obtain ⟨b0,o0,c0,rfl,_,_,_,hcell⟩:=hr.at (k:=0) (by omega);refine q0l Tryz.func179 rfl Tryz.ntmps179 rfl ?_;(refine q0b<|q0a ?_);refine q0z ?_;intro g2 w1 B2 hg2 E1 hs1;(refine q0c<|tn<|q0b<|q0a ?_);refine Ls X_arrZero ?_;refine q0z ?_;intro g3 w2 B3 hg3 E2 hs2;refine q0m (l:=(List.replicate 64 [Value.int .u32 0]).flatten) rfl rfl rfl (by rw [show (0:Int)=((0:Nat):Int) from rfl,q7i];exact q0w) B3 rfl ?_;intro w3 B3' hg3' hs3;rw [show (0:Int)=((0:Nat):Int) from rfl,q7i] at B3';have E3:Ext w w3:=(E1.trans E2).then hg3' (fun g h=>by cases h;omega);have B2':=(B2.ext E2).grown hg3' (by simp;omega);(refine q0c<|tn<|q0b<|q0b<|q0a<|a_I rfl<|q0c<|tn<|q0j ?_);refine q1k (fun q f w'=>∃ k,q=64 - k∧k≤64∧f 0=.slice (some ⟨b0,o0,none⟩) 64 c0∧f 2=.pointer (some ⟨g2,0,none⟩)∧f 3=.pointer (some ⟨g3,0,none⟩)∧f 4=.int .i64 (k:Nat)∧Ext w w' ∧
    Blk w' g3 291 (ints .u32 (Sha.sched bl k++List.replicate (64 - k) 0))∧Blk w' g2 291 (List.replicate 64 [Value.int IntKind.u32 0]).flatten) 64 ?_ ?_
  · exact ⟨0,rfl,by omega,rfl,rfl,rfl,rfl,E3,B3',B2'⟩
  · rintro q f wr ⟨k,rfl,hk,h0,h2,h3,h4,E,B,BB⟩;rw [fold h0,fold h2,fold h3,fold h4];have hsl:(Sha.sched bl k).length=k:=Sha.sched_len bl k
    have hT:∀ i,(Sha.sched bl k++List.replicate (64 - k) 0).getD i 0 < 4294967296:=fun i=>Sha.getD_lt (fun x hx=>by
      rcases List.mem_append.1 hx with hx | hx
      · exact Sha.sched_ok hb k x hx
      · rw [List.eq_of_mem_replicate hx];omega) (by omega)
    have hTl:(Sha.sched bl k++List.replicate (64 - k) 0).length=64:=(by simp [hsl];omega);have next:∀ (e:Int) (wx:World),Ext wr wx→e=((Sha.wnext bl (Sha.sched bl k) k:Nat):Int)→k < 64→∀ wy,Blk wy g3 291 ((ints .u32 (Sha.sched bl k++List.replicate (64 - k) 0)).set (0+k * 1) (.int .u32 e))→wx.grownBy wy (some g3) →
        Ext w wy∧Blk wy g3 291 (ints .u32 (Sha.sched bl (k+1)++List.replicate (64 - (k+1)) 0))∧Blk wy g2 291 (List.replicate 64 [Value.int IntKind.u32 0]).flatten:=by
      intro e wx hE he hk' wy hB hg;subst he;rw [q7h,show 64 - k=(64 - (k+1))+1 from by omega,z3l _ _ _ _ (by omega)] at hB;exact ⟨(E.trans hE).then hg (fun g h=>by cases h;have:=E1.size;omega),hB,(BB.ext hE).grown hg (by simp;omega)⟩
    (refine q0b<|q0b<|q0a<|m_I rfl<|Ls (q1w rfl rfl)<|q0c<|tn ?_);refine q1d rfl (fun h=>?_) (fun h=>?_)
    · (refine q0o<|tn<|q0b<|q0j<|q0b<|q0a<|m_I rfl<|Ls (q1w rfl rfl)<|q0c<|tn ?_);refine q1d rfl (fun h'=>?_) (fun h'=>?_)
      · skip;apply q1r 35 (by kernel_rfl);repeat (first | ((with_reducible apply d_move);(first | apply DW_x (fun r w hA hH=>(q0d (v:=.int _ _) rfl).trans rfl) | apply DW_x (fun r w hA hH=>(q0d (v:=.slice _ _ _) rfl).trans rfl))) | ((with_reducible apply d_add);(first | apply DW_x (fun r w hA hH=>(q1e rfl rfl (by omega)).trans rfl) | apply DW_x (fun r w hA hH=>(q3b rfl rfl).trans rfl))) | ((with_reducible apply d_mul);(first | apply DW_x (fun r w hA hH=>(q3q rfl rfl (by omega)).trans rfl) | apply DW_x (fun r w hA hH=>(q5g rfl rfl).trans rfl))) | ((with_reducible apply d_conv);apply DW_x (fun r w hA hH=>(q1q rfl).trans rfl)) | ((with_reducible apply d_load);apply DW_x (fun r w hA hH=>(X_ldRI rfl ((E.trans hA).range hcell) (by omega)).trans rfl)) | ((with_reducible apply d_idx);(first | apply DW_x (fun r w hA hH=>(q1s rfl rfl (by omega)).trans rfl) | apply DW_x (fun r w hA hH=>(q2m rfl rfl (by omega)).trans rfl))))
        ((with_reducible exact q2e);(exact rfl);(repeat (first | exact .inr (.inr (fun _ _=>by with_reducible rfl)) | (refine And.intro ?_ ?_) | exact .inr (.inl rfl) | exact .inl (by decide +kernel) | exact trivial | exact .inr (.inr (fun _ _=>rfl))));(try dsimp only [Nat.reduceAdd]));intro r w4 E4 _;refine q1a rfl (v:=.int _ _) rfl rfl (B.ext E4) (by rw [q0t,hTl];omega) ?_;intro w5 B5 hg5 _
        obtain ⟨E6,B6,BB6⟩:=next _ w4 E4 (by
          rw [show (4 * (k:Int)).toNat=4 * k from by omega,show (4 * (k:Int)+1).toNat=4 * k+1 from by omega,show (4 * (k:Int)+2).toNat=4 * k+2 from by omega,show (4 * (k:Int)+3).toNat=4 * k+3 from by omega,
            be_walk _ _ _ _ (Sha.getD_lt hb (by omega)) (Sha.getD_lt hb (by omega)) (Sha.getD_lt hb (by omega)) (Sha.getD_lt hb (by omega)),Sha.wnext,if_pos (by omega),Sha.be32]) (by omega) w5 B5 hg5
        (refine q0c<|bn<|tn<|q0a<|m_I rfl<|Ls (q1e rfl rfl (by omega))<|a_I rfl<|q0c<|tn ?_);exact ⟨64 - (k+1),by omega,k+1,rfl,by omega,rfl,rfl,rfl,rfl,E6,B6,BB6⟩
      · (refine q0b ?_);apply q1r 10 (by kernel_rfl);(apply DW_x (fun r w hA hH=>(q0d (v:=.int _ _) rfl).trans rfl);apply DW_x (fun r w hA hH=>(q2q rfl rfl (by omega)).trans rfl);apply DW_x (fun r w hA hH=>(q1g rfl rfl (by omega)).trans rfl);apply DW_x (fun r w hA hH=>(q3s rfl (B.ext hA) (by rw [hTl];omega)).trans rfl);apply DW_x (fun r w hA hH=>(q0d (v:=.int _ _) rfl).trans rfl);apply DW_x (fun r w hA hH=>(q2q rfl rfl (by omega)).trans rfl);apply DW_x (fun r w hA hH=>(q1g rfl rfl (by omega)).trans rfl);apply DW_x (fun r w hA hH=>(q3s rfl (B.ext hA) (by rw [hTl];omega)).trans rfl);apply DW_x (fun r w hA hH=>(q0e (v:=.int _ _) rfl).trans rfl);apply DW_x (fun r w hA hH=>(q0e (v:=.int _ _) rfl).trans rfl));((with_reducible exact q2e);(exact rfl);(repeat (first | exact .inr (.inr (fun _ _=>by with_reducible rfl)) | (refine And.intro ?_ ?_) | exact .inr (.inl rfl) | exact .inl (by decide +kernel) | exact trivial | exact .inr (.inr (fun _ _=>rfl))));(try dsimp only [Nat.reduceAdd]));intro r w4 E4 _;(refine q0c<|tn ?_);(apply shrink6 0 2 3 4 5 6;(first | exact (rfl:_=Value.int _ _) | exact (rfl:_=Value.slice _ _ _) | exact (rfl:_=Value.bool _) | exact (rfl:_=Value.pointer _) | exact (rfl:_=Value.agg _) | exact (rfl:_=Value.string _) | exact (rfl:_=Value.tuple _) | exact (rfl:_=Value.func _ _ _) | exact (rfl:_=Value.map _));(first | exact (rfl:_=Value.int _ _) | exact (rfl:_=Value.slice _ _ _) | exact (rfl:_=Value.bool _) | exact (rfl:_=Value.pointer _) | exact (rfl:_=Value.agg _) | exact (rfl:_=Value.string _) | exact (rfl:_=Value.tuple _) | exact (rfl:_=Value.func _ _ _) | exact (rfl:_=Value.map _));(first | exact (rfl:_=Value.int _ _) | exact (rfl:_=Value.slice _ _ _) | exact (rfl:_=Value.bool _) | exact (rfl:_=Value.pointer _) | exact (rfl:_=Value.agg _) | exact (rfl:_=Value.string _) | exact (rfl:_=Value.tuple _) | exact (rfl:_=Value.func _ _ _) | exact (rfl:_=Value.map _));(first | exact (rfl:_=Value.int _ _) | exact (rfl:_=Value.slice _ _ _) | exact (rfl:_=Value.bool _) | exact (rfl:_=Value.pointer _) | exact (rfl:_=Value.agg _) | exact (rfl:_=Value.string _) | exact (rfl:_=Value.tuple _) | exact (rfl:_=Value.func _ _ _) | exact (rfl:_=Value.map _));(first | exact (rfl:_=Value.int _ _) | exact (rfl:_=Value.slice _ _ _) | exact (rfl:_=Value.bool _) | exact (rfl:_=Value.pointer _) | exact (rfl:_=Value.agg _) | exact (rfl:_=Value.string _) | exact (rfl:_=Value.tuple _) | exact (rfl:_=Value.func _ _ _) | exact (rfl:_=Value.map _));(first | exact (rfl:_=Value.int _ _) | exact (rfl:_=Value.slice _ _ _) | exact (rfl:_=Value.bool _) | exact (rfl:_=Value.pointer _) | exact (rfl:_=Value.agg _) | exact (rfl:_=Value.string _) | exact (rfl:_=Value.tuple _) | exact (rfl:_=Value.func _ _ _) | exact (rfl:_=Value.map _));intro f);apply q1r 29 (by kernel_rfl);(apply DW_x (fun r w hA hH=>(q0d (v:=.int _ _) rfl).trans rfl);apply DW_x (fun r w hA hH=>(q0d (v:=.int _ _) rfl).trans rfl);apply DW_x (fun r w hA hH=>(q2q rfl rfl (by omega)).trans rfl);apply DW_x (fun r w hA hH=>(q1g rfl rfl (by omega)).trans rfl);apply DW_x (fun r w hA hH=>(q3s rfl ((B.ext E4).ext hA) (by rw [hTl];omega)).trans rfl);apply DW_x (fun r w hA hH=>(q0d (v:=.int _ _) rfl).trans rfl));((with_reducible apply q4r);(exact fun _=>rfl);(exact fun _=>rfl);(exact fun r w hA hH=>q9b _ 7 (hT _) (by omega) w));(apply DW_x (fun r w hA hH=>(q0d (v:=.int _ _) rfl).trans rfl));((with_reducible apply q4r);(exact fun _=>rfl);(exact fun _=>rfl);(exact fun r w hA hH=>q9b _ 18 (hT _) (by omega) w));(apply DW_x (fun r w hA hH=>(q4a rfl rfl).trans rfl);apply DW_x (fun r w hA hH=>(q0d (v:=.int _ _) rfl).trans rfl);apply DW_x (fun r w hA hH=>(q4g rfl rfl (by omega)).trans rfl);apply DW_x (fun r w hA hH=>(q4a rfl rfl).trans rfl);apply DW_x (fun r w hA hH=>(q3b rfl rfl).trans rfl);apply DW_x (fun r w hA hH=>(q0d (v:=.int _ _) rfl).trans rfl);apply DW_x (fun r w hA hH=>(q2q rfl rfl (by omega)).trans rfl);apply DW_x (fun r w hA hH=>(q1g rfl rfl (by omega)).trans rfl);apply DW_x (fun r w hA hH=>(q3s rfl ((B.ext E4).ext hA) (by rw [hTl];omega)).trans rfl);apply DW_x (fun r w hA hH=>(q3b rfl rfl).trans rfl);apply DW_x (fun r w hA hH=>(q0d (v:=.int _ _) rfl).trans rfl));((with_reducible apply q4r);(exact fun _=>rfl);(exact fun _=>rfl);(exact fun r w hA hH=>q9b _ 17 (hT _) (by omega) w));(apply DW_x (fun r w hA hH=>(q0d (v:=.int _ _) rfl).trans rfl));((with_reducible apply q4r);(exact fun _=>rfl);(exact fun _=>rfl);(exact fun r w hA hH=>q9b _ 19 (hT _) (by omega) w));(apply DW_x (fun r w hA hH=>(q4a rfl rfl).trans rfl);apply DW_x (fun r w hA hH=>(q0d (v:=.int _ _) rfl).trans rfl);apply DW_x (fun r w hA hH=>(q4g rfl rfl (by omega)).trans rfl);apply DW_x (fun r w hA hH=>(q4a rfl rfl).trans rfl);apply DW_x (fun r w hA hH=>(q3b rfl rfl).trans rfl);apply DW_x (fun r w hA hH=>(q1s rfl rfl (by omega)).trans rfl));((with_reducible exact q2e);(exact rfl);(repeat (first | exact .inr (.inr (fun _ _=>by with_reducible rfl)) | (refine And.intro ?_ ?_) | exact .inr (.inl rfl) | exact .inl (by decide +kernel) | exact trivial | exact .inr (.inr (fun _ _=>rfl))));(try dsimp only [Nat.reduceAdd]));intro r w5 E5 _;refine q1a rfl (v:=.int _ _) rfl rfl ((B.ext E4).ext E5) (by rw [q0t,hTl];omega) ?_;intro w6 B6 hg6 _
        obtain ⟨E7,B7,BB7⟩:=next _ w5 (E4.trans E5) (by
          rw [show (0+((k:Int) - 16).toNat * 1)=k - 16 from by omega,show (0+((k:Int) - 15).toNat * 1)=k - 15 from by omega,show (0+((k:Int) - 7).toNat * 1)=k - 7 from by omega,show (0+((k:Int) - 2).toNat * 1)=k - 2 from by omega]
          have s0:=z3p _ 7 18 3 (hT (k - 15)) (by omega)
          have s1:=z3p _ 17 19 10 (hT (k - 2)) (by omega)
          rw [show Int.toNat 3=Int.toNat ((3:Nat):Int) from rfl,show Int.toNat 10=Int.toNat ((10:Nat):Int) from rfl,s0,s1,wr3,Sha.wnext,if_neg (by omega),
            q7z _ _ _ (by omega),q7z _ _ _ (by omega),q7z _ _ _ (by omega),q7z _ _ _ (by omega)]
          rfl) (by omega) w6 B6 hg6
        (refine q0c<|bn<|tn<|q0a<|m_I rfl<|Ls (q1e rfl rfl (by omega))<|a_I rfl<|q0c<|tn ?_);exact ⟨64 - (k+1),by omega,k+1,rfl,by omega,rfl,rfl,rfl,rfl,E7,B7,BB7⟩
    · (refine q1b<|te<|te<|bx<|tn<|q0b<|q0a ?_);obtain rfl:k=64:=(by omega);have B':Blk wr g3 291 (ints .u32 (Sha.sched bl 64)):=(by simpa using B);refine Ls (q2o rfl B' (by simp [q0t,Sha.sched_len])) ?_;refine q0m (l:=ints .u32 (Sha.sched bl 64)) rfl rfl (by simp [q0t,Sha.sched_len]) q0w BB rfl ?_;intro w8 B8 hg8 _;(refine q0c<|tn<|q0r ?_);refine q1h rfl rfl (Res.cellA inferInstance rfl (B8.range (fun j u h=>by simpa using h)) (by simp [q0t,Sha.sched_len]) .nil) ?_;exact ⟨rfl,E.then hg8 (fun g h=>by cases h;omega)⟩
theorem wr2 (a b:Nat):IntKind.u32.wrap ((a:Int)+(b:Nat))=(((a+b) % 4294967296:Nat):Int):=by
  simp only [IntKind.wrap_u32];omega
theorem inv_walk (e:Nat) (he:e < 4294967296):IntKind.u32.wrap (4294967295 - (e:Int))=((4294967295 - e:Nat):Int):=by
  simp only [IntKind.wrap_u32];omega
theorem wr4 (a b c d e:Nat):IntKind.u32.wrap (IntKind.u32.wrap (IntKind.u32.wrap (IntKind.u32.wrap ((a:Int)+(b:Nat))+(c:Nat))+(d:Nat))+(e:Nat))=(((a+b+c+d+e) % 4294967296:Nat):Int):=by
  simp only [IntKind.wrap_u32];omega
theorem z1u (x a b c:Nat) (hx:x < 4294967296):bits BinOp.xor IntKind.u32 (bits BinOp.xor IntKind.u32 ((Sha.rotr x a:Nat):Int) ((Sha.rotr x b:Nat):Int)) ((Sha.rotr x c:Nat):Int)=((Sha.rotr x a ^^^ Sha.rotr x b ^^^ Sha.rotr x c:Nat):Int):=by
  rw [q3v _ _ (Sha.rotr_lt hx) (Sha.rotr_lt hx),q3v _ _ (Sha.xor_lt (Sha.rotr_lt hx) (Sha.rotr_lt hx)) (Sha.rotr_lt hx)]
theorem t1_walk (R : Sha.S8) (k w : Nat) (h : R.ok) : IntKind.u32.wrap (IntKind.u32.wrap (IntKind.u32.wrap (IntKind.u32.wrap ((R.h : Int) + bits BinOp.xor IntKind.u32 (bits BinOp.xor IntKind.u32 ((Sha.rotr R.e 6 : Nat) : Int) ((Sha.rotr R.e 11 : Nat) : Int)) ((Sha.rotr R.e 25 : Nat) : Int)) +
      bits BinOp.xor IntKind.u32 (bits BinOp.and IntKind.u32 (R.e:Int) (R.f:Int)) (bits BinOp.and IntKind.u32 (IntKind.u32.wrap (4294967295 - (R.e:Int))) (R.g:Int)))+(k:Int))+(w:Int))=((Sha.t1 R k w:Nat):Int):=by
  obtain ⟨ra,rb,rc,rd,re,rf,rg,rh⟩:=h;rw [z1u _ _ _ _ re,inv_walk _ re,q3w _ _ re rf,q3w _ _ (by omega) rg,q3v _ _ (Sha.and_lt rf) (Sha.and_lt rg),wr4];rfl
theorem t2_walk (R : Sha.S8) (h : R.ok) : IntKind.u32.wrap (bits BinOp.xor IntKind.u32 (bits BinOp.xor IntKind.u32 ((Sha.rotr R.a 2 : Nat) : Int) ((Sha.rotr R.a 13 : Nat) : Int)) ((Sha.rotr R.a 22 : Nat) : Int) +
      bits BinOp.or IntKind.u32 (bits BinOp.or IntKind.u32 (bits BinOp.and IntKind.u32 (R.a:Int) (R.b:Int)) (bits BinOp.and IntKind.u32 (R.a:Int) (R.c:Int))) (bits BinOp.and IntKind.u32 (R.b:Int) (R.c:Int)))=((Sha.t2 R:Nat):Int):=by
  obtain ⟨ra,rb,rc,rd,re,rf,rg,rh⟩:=h;rw [z1u _ _ _ _ ra,q3w _ _ ra rb,q3w _ _ ra rc,q3w _ _ rb rc,q6e _ _ (Sha.and_lt rb) (Sha.and_lt rc),q6e _ _ (Sha.or_lt (Sha.and_lt rb) (Sha.and_lt rc)) (Sha.and_lt rc),wr2];rfl
set_option maxHeartbeats 2000000 in
theorem compress (lo hi:Nat) (v:Value) (S:Sha.S8) (hS:S.ok) (bl:List Nat) (hlen:bl.length=64) (hb:Sha.bytesOk bl) (w:World) (hr:Row w lo hi 1 v 64 (ints .u8 bl)) :
    Calls Tryz.prog 125 #[.agg (ints .u32 S.list).toArray,v] w fun e w'=>e=.returned (.agg (ints .u32 (Sha.compress S bl).list).toArray)∧Ext w w':=by
  refine q0l Tryz.func125 rfl Tryz.ntmps125 rfl ?_;(refine q0b<|q0a ?_);refine q3t (l:=ints .u32 S.list) rfl ?_;intro g2 w1 B2 hg2 E1 hs1;refine q0z ?_;intro g4 w2 B4 hg4 E2 hs2;(refine q0c<|tn<|q0b<|q0a<|Ls (q0d (v:=v) rfl) ?_);refine L_fv rfl (schedule lo hi v bl hlen hb w2 ((hr.ext E1).ext E2)) ?_;intro w3 E3;refine L_fv rfl (constants w3) ?_;intro w4 E4;refine q0z ?_;intro g5 w5 B5 hg5 E5 hs5;refine q0z ?_;intro g6 w6 B6 hg6 E6 hs6;refine q0m (l:=ints .u32 (Sha.sched bl 64)) rfl rfl (by simp [q0t,Sha.sched_len]) q0w (B5.ext E6) rfl ?_;intro w7 B7 hg7 hs7;refine q0m (l:=ints .u32 Sha.ks) rfl rfl rfl q0w (B6.grown hg7 (by simp;omega)) rfl ?_;intro w8 B8 hg8 hs8;have E8:Ext w2 w8:=(((E3.trans E4).trans (E5.trans E6)).then hg7 (fun g h=>by cases h;have:=E3.size;have:=E4.size;omega)).then hg8 (fun g h=>by cases h;have:=E3.size;have:=E4.size;omega);have C2:=(B2.ext E2).ext E8;have C4:=B4.ext E8;have C5:=B7.grown hg8 (by simp;omega);(refine q0c<|tn<|q0b ?_);(apply shrink4 2 4 5 6;(first | exact (rfl:_=Value.int _ _) | exact (rfl:_=Value.slice _ _ _) | exact (rfl:_=Value.bool _) | exact (rfl:_=Value.pointer _) | exact (rfl:_=Value.agg _) | exact (rfl:_=Value.string _) | exact (rfl:_=Value.tuple _) | exact (rfl:_=Value.func _ _ _) | exact (rfl:_=Value.map _));(first | exact (rfl:_=Value.int _ _) | exact (rfl:_=Value.slice _ _ _) | exact (rfl:_=Value.bool _) | exact (rfl:_=Value.pointer _) | exact (rfl:_=Value.agg _) | exact (rfl:_=Value.string _) | exact (rfl:_=Value.tuple _) | exact (rfl:_=Value.func _ _ _) | exact (rfl:_=Value.map _));(first | exact (rfl:_=Value.int _ _) | exact (rfl:_=Value.slice _ _ _) | exact (rfl:_=Value.bool _) | exact (rfl:_=Value.pointer _) | exact (rfl:_=Value.agg _) | exact (rfl:_=Value.string _) | exact (rfl:_=Value.tuple _) | exact (rfl:_=Value.func _ _ _) | exact (rfl:_=Value.map _));(first | exact (rfl:_=Value.int _ _) | exact (rfl:_=Value.slice _ _ _) | exact (rfl:_=Value.bool _) | exact (rfl:_=Value.pointer _) | exact (rfl:_=Value.agg _) | exact (rfl:_=Value.string _) | exact (rfl:_=Value.tuple _) | exact (rfl:_=Value.func _ _ _) | exact (rfl:_=Value.map _));intro f);have hW:∀ i,(Sha.sched bl 64).getD i 0 < 4294967296:=fun i=>Sha.getD_lt (Sha.sched_ok hb 64) (by omega);have hK:∀ i,Sha.ks.getD i 0 < 4294967296:=fun i=>Sha.getD_lt Sha.ks_ok (by omega);apply q1r 12 (by kernel_rfl);(apply DW_x (fun r w hA hH=>(q1g rfl rfl (by omega)).trans rfl);apply DW_x (fun r w hA hH=>(q3s rfl (C2.ext hA) (Nat.le_of_ble_eq_true rfl)).trans rfl);apply DW_x (fun r w hA hH=>(q1g rfl rfl (by omega)).trans rfl);apply DW_x (fun r w hA hH=>(q3s rfl (C2.ext hA) (Nat.le_of_ble_eq_true rfl)).trans rfl);apply DW_x (fun r w hA hH=>(q1g rfl rfl (by omega)).trans rfl);apply DW_x (fun r w hA hH=>(q3s rfl (C2.ext hA) (Nat.le_of_ble_eq_true rfl)).trans rfl);apply DW_x (fun r w hA hH=>(q1g rfl rfl (by omega)).trans rfl);apply DW_x (fun r w hA hH=>(q3s rfl (C2.ext hA) (Nat.le_of_ble_eq_true rfl)).trans rfl);apply DW_x (fun r w hA hH=>(q0e (v:=.int _ _) rfl).trans rfl);apply DW_x (fun r w hA hH=>(q0e (v:=.int _ _) rfl).trans rfl);apply DW_x (fun r w hA hH=>(q0e (v:=.int _ _) rfl).trans rfl);apply DW_x (fun r w hA hH=>(q0e (v:=.int _ _) rfl).trans rfl));((with_reducible exact q2e);(exact rfl);(repeat (first | exact .inr (.inr (fun _ _=>by with_reducible rfl)) | (refine And.intro ?_ ?_) | exact .inr (.inl rfl) | exact .inl (by decide +kernel) | exact trivial | exact .inr (.inr (fun _ _=>rfl))));(try dsimp only [Nat.reduceAdd]));intro r w9 E9 _;(refine q0c<|tn<|q0b ?_);apply q1r 12 (by kernel_rfl);(apply DW_x (fun r w hA hH=>(q1g rfl rfl (by omega)).trans rfl);apply DW_x (fun r w hA hH=>(q3s rfl ((C2.ext E9).ext hA) (Nat.le_of_ble_eq_true rfl)).trans rfl);apply DW_x (fun r w hA hH=>(q1g rfl rfl (by omega)).trans rfl);apply DW_x (fun r w hA hH=>(q3s rfl ((C2.ext E9).ext hA) (Nat.le_of_ble_eq_true rfl)).trans rfl);apply DW_x (fun r w hA hH=>(q1g rfl rfl (by omega)).trans rfl);apply DW_x (fun r w hA hH=>(q3s rfl ((C2.ext E9).ext hA) (Nat.le_of_ble_eq_true rfl)).trans rfl);apply DW_x (fun r w hA hH=>(q1g rfl rfl (by omega)).trans rfl);apply DW_x (fun r w hA hH=>(q3s rfl ((C2.ext E9).ext hA) (Nat.le_of_ble_eq_true rfl)).trans rfl);apply DW_x (fun r w hA hH=>(q0e (v:=.int _ _) rfl).trans rfl);apply DW_x (fun r w hA hH=>(q0e (v:=.int _ _) rfl).trans rfl);apply DW_x (fun r w hA hH=>(q0e (v:=.int _ _) rfl).trans rfl);apply DW_x (fun r w hA hH=>(q0e (v:=.int _ _) rfl).trans rfl));((with_reducible exact q2e);(exact rfl);(repeat (first | exact .inr (.inr (fun _ _=>by with_reducible rfl)) | (refine And.intro ?_ ?_) | exact .inr (.inl rfl) | exact .inl (by decide +kernel) | exact trivial | exact .inr (.inr (fun _ _=>rfl))));(try dsimp only [Nat.reduceAdd]));intro r w10 E10 _;(refine q0c<|tn<|q0b<|q0b<|q0a<|a_I rfl<|q0c<|tn<|q0j ?_);have EA:Ext w w10:=(((E1.trans E2).trans E8).trans E9).trans E10;have D2:=(C2.ext E9).ext E10;have D4:=(C4.ext E9).ext E10;have D5:=(C5.ext E9).ext E10;have D6:=(B8.ext E9).ext E10;refine q1k (fun q f w'=>∃ k,q=64 - k∧k≤64∧f 2=.pointer (some ⟨g2,0,none⟩)∧f 4=.pointer (some ⟨g4,0,none⟩)∧f 5=.pointer (some ⟨g5,0,none⟩)∧f 6=.pointer (some ⟨g6,0,none⟩) ∧
    f 7=.int .u32 ((Sha.rounds S (Sha.sched bl 64) k).a:Nat)∧f 8=.int .u32 ((Sha.rounds S (Sha.sched bl 64) k).b:Nat)∧f 9=.int .u32 ((Sha.rounds S (Sha.sched bl 64) k).c:Nat)∧f 10=.int .u32 ((Sha.rounds S (Sha.sched bl 64) k).d:Nat) ∧
    f 11=.int .u32 ((Sha.rounds S (Sha.sched bl 64) k).e:Nat)∧f 12=.int .u32 ((Sha.rounds S (Sha.sched bl 64) k).f:Nat)∧f 13=.int .u32 ((Sha.rounds S (Sha.sched bl 64) k).g:Nat)∧f 14=.int .u32 ((Sha.rounds S (Sha.sched bl 64) k).h:Nat) ∧
    f 15=.int .i64 (k:Nat)∧Ext w10 w') 64 ?_ ?_
  · exact ⟨0,rfl,by omega,rfl,rfl,rfl,rfl,rfl,rfl,rfl,rfl,rfl,rfl,rfl,rfl,rfl,Ext.refl _⟩
  · rintro q f wr ⟨k,rfl,hk,h2,h4,h5,h6,h7,h8,h9,h10,h11,h12,h13,h14,h15,E⟩;have hR:=Sha.rounds_ok hS (Sha.sched bl 64) k;generalize hRk:Sha.rounds S (Sha.sched bl 64) k=R at *;obtain ⟨ra,rb,rc,rd,re,rf,rg,rh⟩:=hR;rw [fold h2,fold h4,fold h5,fold h6,fold h7,fold h8,fold h9,fold h10,fold h11,fold h12,fold h13,fold h14,fold h15];(refine q0b<|q0b<|q0a<|m_I rfl<|Ls (q1w rfl rfl)<|q0c<|tn ?_);refine q1d rfl (fun h=>?_) (fun h=>?_)
    · (refine q0o<|tn<|q0b<|q0j<|q0b ?_);apply q1r 28 (by kernel_rfl);(apply DW_x (fun r w hA hH=>(q0d (v:=.int _ _) rfl).trans rfl);apply DW_x (fun r w hA hH=>(q0d (v:=.int _ _) rfl).trans rfl));((with_reducible apply q4r);(exact fun _=>rfl);(exact fun _=>rfl);(exact fun r w hA hH=>q9b _ 6 re (by omega) w));(apply DW_x (fun r w hA hH=>(q0d (v:=.int _ _) rfl).trans rfl));((with_reducible apply q4r);(exact fun _=>rfl);(exact fun _=>rfl);(exact fun r w hA hH=>q9b _ 11 re (by omega) w));(apply DW_x (fun r w hA hH=>(q4a rfl rfl).trans rfl);apply DW_x (fun r w hA hH=>(q0d (v:=.int _ _) rfl).trans rfl));((with_reducible apply q4r);(exact fun _=>rfl);(exact fun _=>rfl);(exact fun r w hA hH=>q9b _ 25 re (by omega) w));(apply DW_x (fun r w hA hH=>(q4a rfl rfl).trans rfl);apply DW_x (fun r w hA hH=>(q3b rfl rfl).trans rfl);apply DW_x (fun r w hA hH=>(q0d (v:=.int _ _) rfl).trans rfl);apply DW_x (fun r w hA hH=>(q0d (v:=.int _ _) rfl).trans rfl);apply DW_x (fun r w hA hH=>(q4q rfl rfl).trans rfl);apply DW_x (fun r w hA hH=>(q0d (v:=.int _ _) rfl).trans rfl);apply DW_x (fun r w hA hH=>(q7a rfl rfl).trans rfl);apply DW_x (fun r w hA hH=>(q0d (v:=.int _ _) rfl).trans rfl);apply DW_x (fun r w hA hH=>(q4q rfl rfl).trans rfl);apply DW_x (fun r w hA hH=>(q4a rfl rfl).trans rfl);apply DW_x (fun r w hA hH=>(q3b rfl rfl).trans rfl);apply DW_x (fun r w hA hH=>(q0d (v:=.int _ _) rfl).trans rfl);apply DW_x (fun r w hA hH=>(q1s rfl rfl (by omega)).trans rfl);apply DW_x (fun r w hA hH=>(q3s rfl ((D6.ext E).ext hA) (by rw [Sha.ks_len];omega)).trans rfl);apply DW_x (fun r w hA hH=>(q3b rfl rfl).trans rfl);apply DW_x (fun r w hA hH=>(q0d (v:=.int _ _) rfl).trans rfl);apply DW_x (fun r w hA hH=>(q1s rfl rfl (by omega)).trans rfl);apply DW_x (fun r w hA hH=>(q3s rfl ((D5.ext E).ext hA) (by rw [Sha.sched_len];omega)).trans rfl);apply DW_x (fun r w hA hH=>(q3b rfl rfl).trans rfl);apply DW_x (fun r w hA hH=>(q0e (v:=.int _ _) rfl).trans rfl));((with_reducible exact q2e);(exact rfl);(repeat (first | exact .inr (.inr (fun _ _=>by with_reducible rfl)) | (refine And.intro ?_ ?_) | exact .inr (.inl rfl) | exact .inl (by decide +kernel) | exact trivial | exact .inr (.inr (fun _ _=>rfl))));(try dsimp only [Nat.reduceAdd]));intro r w11 E11 _;(refine q0c<|tn<|q0b<|q0a<|m_I rfl ?_);refine L_fv rfl (q9b _ 2 ra (by omega) w11) ?_;intro w12 E12;(refine m_I rfl ?_);refine L_fv rfl (q9b _ 13 ra (by omega) w12) ?_;intro w13 E13;(refine Ls (q4a rfl rfl)<|m_I rfl ?_);refine L_fv rfl (q9b _ 22 ra (by omega) w13) ?_;intro w14 E14;(refine Ls (q4a rfl rfl)<|m_I rfl<|m_I rfl<|Ls (q4q rfl rfl)<|m_I rfl<|m_I rfl<|Ls (q4q rfl rfl)<|Ls (X_or rfl rfl)<|m_I rfl<|m_I rfl<|Ls (q4q rfl rfl)<|Ls (X_or rfl rfl)<|Ls (q3b rfl rfl)<|a_I rfl<|q0c<|tn<|q0b<|q0a<|m_I rfl<|a_I rfl<|q0c<|tn<|q0b<|q0a<|m_I rfl<|a_I rfl<|q0c<|tn<|q0b<|q0a<|m_I rfl<|a_I rfl<|q0c<|tn<|q0b<|q0a<|m_I rfl<|m_I rfl<|Ls (q3b rfl rfl)<|a_I rfl<|q0c<|tn<|q0b<|q0a<|m_I rfl<|a_I rfl<|q0c<|tn<|q0b<|q0a<|m_I rfl<|a_I rfl<|q0c<|tn<|q0b<|q0a<|m_I rfl<|a_I rfl<|q0c<|tn<|q0a<|m_I rfl<|m_I rfl<|Ls (q3b rfl rfl)<|a_I rfl<|q0c<|bn<|tn<|q0a<|m_I rfl<|Ls (q1e rfl rfl (by omega))<|a_I rfl<|q0c<|tn ?_);have hstep:Sha.rounds S (Sha.sched bl 64) (k+1)=Sha.round R (Sha.ks.getD k 0) ((Sha.sched bl 64).getD k 0):=(by rw [Sha.rounds,hRk]);have e1:=t1_walk R (Sha.ks.getD k 0) ((Sha.sched bl 64).getD k 0) ⟨ra,rb,rc,rd,re,rf,rg,rh⟩;have e2:=t2_walk R ⟨ra,rb,rc,rd,re,rf,rg,rh⟩;rw [← show 0+k * 1=k from by omega] at e1;refine ⟨64 - (k+1),by omega,k+1,rfl,by omega,rfl,rfl,rfl,rfl,?_,?_,?_,?_,?_,?_,?_,?_,rfl,(((E.trans E11).trans E12).trans E13).trans E14⟩;all_goals rw [hstep]
      · refine (congrArg (Value.int IntKind.u32) ?_);rw [e1,e2,wr2,show 0+k * 1=k from by omega];rfl
      · rfl
      · rfl
      · rfl
      · refine (congrArg (Value.int IntKind.u32) ?_);rw [e1,wr2,show 0+k * 1=k from by omega];rfl
      · rfl
      · rfl
      · rfl
    · (refine q1b<|te<|te<|bx<|tn<|q0b<|q0a<|Ls (q1g rfl rfl (by omega)) ?_);obtain rfl:k=64:=(by omega);(refine Ls (q3s rfl (D2.ext E) (Nat.le_of_ble_eq_true rfl))<|m_I rfl<|Ls (q3b rfl rfl)<|Ls (q1g rfl rfl (by omega))<|Ls (q3s rfl (D2.ext E) (Nat.le_of_ble_eq_true rfl))<|m_I rfl<|Ls (q3b rfl rfl)<|Ls (q1g rfl rfl (by omega))<|Ls (q3s rfl (D2.ext E) (Nat.le_of_ble_eq_true rfl))<|m_I rfl<|Ls (q3b rfl rfl)<|Ls (q1g rfl rfl (by omega))<|Ls (q3s rfl (D2.ext E) (Nat.le_of_ble_eq_true rfl))<|m_I rfl<|Ls (q3b rfl rfl)<|Ls (q1g rfl rfl (by omega))<|Ls (q3s rfl (D2.ext E) (Nat.le_of_ble_eq_true rfl))<|m_I rfl<|Ls (q3b rfl rfl)<|Ls (q1g rfl rfl (by omega))<|Ls (q3s rfl (D2.ext E) (Nat.le_of_ble_eq_true rfl))<|m_I rfl<|Ls (q3b rfl rfl)<|Ls (q1g rfl rfl (by omega))<|Ls (q3s rfl (D2.ext E) (Nat.le_of_ble_eq_true rfl))<|m_I rfl<|Ls (q3b rfl rfl)<|Ls (q1g rfl rfl (by omega))<|Ls (q3s rfl (D2.ext E) (Nat.le_of_ble_eq_true rfl))<|m_I rfl<|Ls (q3b rfl rfl) ?_);have hc:(Sha.compress S bl).list=[(S.a+R.a) % 4294967296,(S.b+R.b) % 4294967296,(S.c+R.c) % 4294967296,(S.d+R.d) % 4294967296,(S.e+R.e) % 4294967296,(S.f+R.f) % 4294967296,(S.g+R.g) % 4294967296,(S.h+R.h) % 4294967296]:=by
        rw [Sha.compress,hRk];rfl
      generalize hC:(Sha.compress S bl).list=C at *;subst hc;simp only [wr2];refine Ls (z2g (vs:=ints .u32 [(S.a+R.a) % 4294967296,(S.b+R.b) % 4294967296,(S.c+R.c) % 4294967296,(S.d+R.d) % 4294967296,(S.e+R.e) % 4294967296,(S.f+R.f) % 4294967296,(S.g+R.g) % 4294967296,(S.h+R.h) % 4294967296]) rfl rfl rfl q0w) ?_;refine q0m rfl rfl rfl q0w (D4.ext E) rfl ?_;intro w11 B11 hg11 _;(refine q0c<|tn<|q0r ?_);refine q1h rfl rfl (Res.cellA inferInstance rfl (B11.range (fun j u h=>by simpa using h)) rfl .nil) ?_;exact ⟨rfl,(EA.trans E).then hg11 (fun g h=>by cases h;have:=E1.size;omega)⟩
set_option maxHeartbeats 1000000 in
theorem join (lo hi lo' hi':Nat) (v u:Value) (a b:List Nat) (w:World) (ha:Row w lo hi 1 v a.length (ints .u8 a)) (hb:Row w lo' hi' 1 u b.length (ints .u8 b)) (hl:a.length+b.length≤1000000000) :
    Calls Tryz.prog 15 #[v,u] w fun e w'=>∃ q,e=.returned q∧Ext w w'∧w'.ownsRow w.heap.size 5 1 q (a.length+b.length) (ints .u8 (a++b)):=by
  refine q0l Tryz.func15 rfl Tryz.ntmps15 rfl ?_;(refine q0b<|q0a<|a_S rfl<|q0c<|tn<|q0b<|q0a ?_);refine q5e ?_;intro q1 w1 E1 hs1 o1;(refine Ls (q0d (v:=v) rfl) ?_);refine q1c (v:=q1) (u:=v) rfl rfl o1 (ha.ext E1) q0w (by omega) (by omega) (by omega) ?_;intro q2 w2 o2 g2 b2;have E2:Ext w w2:=E1.then g2 (fun g h=>(o1.lt g h).1);(refine Ls (q0e (v:=q2) rfl)<|q0c<|tn<|q0b<|q0a<|Ls (q0d (v:=q2) rfl)<|Ls (q0d (v:=u) rfl) ?_);refine q1c (v:=q2) (u:=u) rfl rfl o2 (hb.ext E2) q0w (by omega) (by omega) E2.size ?_;intro q3 w3 o3 g3 b3;have E3:Ext w w3:=E2.then g3 (fun g h=>(o2.lt g h).1);(refine Ls (q0e (v:=q3) rfl)<|q0c<|tn<|q0b<|q0a<|Ls (q0d (v:=q3) rfl)<|Ls (q0e (v:=q3) rfl)<|q0c<|tn<|q0r ?_);refine q0i rfl rfl (v:=q3) rfl ?_;refine ⟨q3,rfl,E3,?_⟩;rw [q2i];simpa using o3
set_option maxHeartbeats 1000000 in
theorem bytes (d:List Nat) (hd:d.length=32) (w:World) :
    Calls Tryz.prog 47 #[.agg (ints .u8 d).toArray] w fun e w'=>∃ q,e=.returned q∧Ext w w'∧w'.ownsRow w.heap.size 5 1 q 32 (ints .u8 d):=by
  refine q0l Tryz.func47 rfl Tryz.ntmps47 rfl ?_;(refine q0b<|q0a ?_);refine q3t (l:=ints .u8 d) rfl ?_;intro g1 w1 B1 hg1 E1 hs1;(refine a_S rfl<|q0c<|tn<|q0b<|q0a ?_);refine q5e ?_;intro q1 w2 E2 hs2 o1;(refine Ls (q0e (v:=q1) rfl)<|q0c<|tn<|q0b<|q0b<|q0a<|a_I rfl<|q0c<|tn<|q0j ?_);refine q1k (fun q f w'=>∃ k v',q=32 - k∧k≤32∧f 1=.pointer (some ⟨g1,0,none⟩)∧f 3=v'∧f 4=.int .i64 (k:Nat)∧w'.ownsRow (g1+1) 5 1 v' k (ints .u8 (d.take k))∧Ext w1 w') 32 ?_ ?_
  · exact ⟨0,q1,rfl,by omega,rfl,rfl,rfl,q6n o1 (by omega),E2⟩
  · rintro q f wr ⟨k,v',rfl,hk,h1,h3,h4,ho,E⟩;rw [fold h1,fold h3,fold h4];(refine q0b<|q0b<|q0a<|m_I rfl<|Ls (q1w rfl rfl)<|q0c<|tn ?_);refine q1d rfl (fun h=>?_) (fun h=>?_)
    · have hkd:k < d.length:=(by omega);(refine q0o<|tn<|q0b<|q0j<|q0a<|Ls (q0d (v:=v') rfl)<|m_I rfl<|Ls (q1s rfl rfl (by omega))<|Ls (q3s rfl (B1.ext E) (by omega)) ?_);refine q3z (v:=.int _ _) rfl rfl ?_;intro u w3 hr E3 _ _;refine q1c (v:=v') (u:=u) rfl rfl (q1p ho E3) hr (by simp [Value.oneCell']) (by omega) (by omega) (by have:=E.size;have:=E3.size;omega) ?_;intro v2 w4 ho2 hg2 hb2;(refine Ls (q0e (v:=v2) rfl)<|q0c<|bn<|tn<|q0a<|m_I rfl<|Ls (q1e rfl rfl (by omega))<|a_I rfl<|q0c<|tn ?_);refine ⟨32 - (k+1),by omega,k+1,v2,rfl,by omega,rfl,rfl,rfl,?_,(E.trans E3).then hg2 (fun g h=>by have:=(ho.lt g h).1;omega)⟩;rw [List.take_succ_eq_append_getElem hkd,q2i];have e:d.getD (0+k * 1) 0=d[k]:=(by rw [show 0+k * 1=k by omega,List.getD_eq_getElem?_getD,List.getElem?_eq_getElem hkd];rfl);rw [e] at ho2;exact ho2
    · (refine q1b<|te<|te<|bx<|tn<|q0b<|q0a<|Ls (q0d (v:=v') rfl)<|Ls (q0e (v:=v') rfl)<|q0c<|tn<|q0r ?_);refine q0i rfl rfl (v:=v') rfl ?_;obtain rfl:k=32:=(by omega);refine ⟨v',rfl,E1.trans E,q6n ?_ (show w.heap.size≤g1+1 by omega)⟩;rwa [List.take_of_length_le (by omega)] at ho
theorem z2m (n k:Nat) (hk:k≤Sha.zeros n):((n+1+k) % 64 ≠ 56)↔k < Sha.zeros n:=by
  unfold Sha.zeros at *;omega
theorem q8m (n:Nat):Sha.zeros n < 64:=by unfold Sha.zeros;omega
theorem len_walk (n i:Nat) (hn:n≤1000000000) (hi:i < 8) :
    IntKind.u8.wrap ((IntKind.u64.wrap (IntKind.u64.wrap (n:Int) * 8)).fdiv (2 ^ min (56 - 8 * (i:Int)).toNat IntKind.u64.bits))=((n * 8 / 2 ^ (56 - 8 * i) % 256:Nat):Int):=by
  have e:IntKind.u64.wrap (IntKind.u64.wrap (n:Int) * 8)=((n * 8:Nat):Int):=by simp only [IntKind.wrap_u64];omega
  rw [e,show IntKind.u64.bits=64 from rfl,shr_nat _ _ (by omega),z1b,show (56 - 8 * (i:Int)).toNat=56 - 8 * i by omega]
theorem q9r (n k:Nat) (hk:k < 8):(Sha.lenBytes n).take (k+1)=(Sha.lenBytes n).take k++[n * 8 / 2 ^ (56 - 8 * k) % 256]:=by
  have hl:k < (Sha.lenBytes n).length:=by simp [Sha.lenBytes];omega
  rw [List.take_succ_eq_append_getElem hl];simp [Sha.lenBytes]
set_option maxHeartbeats 1000000 in
theorem pad (lo hi:Nat) (v:Value) (a:List Nat) (w:World) (ha:Row w lo hi 1 v a.length (ints .u8 a)) (hl:a.length≤1000000000) :
    Calls Tryz.prog 124 #[v] w fun e w'=>∃ q,e=.returned q∧Ext w w'∧w'.ownsRow w.heap.size 5 1 q (Sha.pad a).length (ints .u8 (Sha.pad a)):=by
  refine q0l Tryz.func124 rfl Tryz.ntmps124 rfl ?_;(refine q0b<|q0a<|a_S rfl<|q0c<|tn<|q0b<|q0a ?_);refine q5e ?_;intro q1 w1 E1 hs1 o1;(refine Ls (q0d (v:=v) rfl) ?_);refine q1c (v:=q1) (u:=v) rfl rfl o1 (ha.ext E1) q0w (by omega) (by omega) (by omega) ?_;intro q2 w2 o2 g2 b2;have E2:Ext w w2:=E1.then g2 (fun g h=>(o1.lt g h).1);(refine Ls (q0e (v:=q2) rfl)<|q0c<|tn<|q0b<|q0a<|Ls (q0d (v:=q2) rfl) ?_);refine q3z (v:=.int _ _) rfl rfl ?_;intro u w3 hr E3 _ _;refine q1c (v:=q2) (u:=u) rfl rfl (q1p o2 E3) hr (by simp [Value.oneCell']) (by omega) (by omega) (by have:=E2.size;have:=E3.size;omega) ?_;intro q4 w4 o4 g4 b4;have E4:Ext w w4:=(E2.trans E3).then g4 (fun g h=>(o2.lt g h).1);(refine Ls (q0e (v:=q4) rfl)<|q0c<|tn<|q0b<|q0j ?_);have hz:=q8m a.length;have e4:[]++ints .u8 a++[Value.int .u8 128]=ints .u8 (a++[128]++List.replicate 0 0):=by simp [q2i];rfl
  rw [e4] at o4;refine q1k (fun q f w'=>∃ k v',q=Sha.zeros a.length - k∧k≤Sha.zeros a.length∧f 0=v∧f 3=v'∧w'.ownsRow w.heap.size 5 1 v' (a.length+1+k) (ints .u8 (a++[128]++List.replicate k 0))∧Ext w w') (Sha.zeros a.length) ?_ ?_
  · exact ⟨0,q4,rfl,by omega,rfl,rfl,by simpa using o4,E4⟩
  · rintro q f wr ⟨k,v',rfl,hk,h0,h3,ho,E⟩;rw [fold h0,fold h3];(refine q0b<|q0b<|q0a<|Ls (q0d (v:=v') rfl)<|Ls (q3f (v:=v') rfl (Row.of_own ho))<|Ls (q4o rfl rfl (by omega))<|Ls (q6i rfl rfl)<|q0c<|tn ?_);refine q1d rfl (fun h=>?_) (fun h=>?_)
    · have hk':k < Sha.zeros a.length:=(z2m a.length k hk).1 (by
        have:¬ ((((a.length+1+k:Nat):Int) % 64)=56):=h
        omega)
      (refine q0o<|tn<|q0j<|q0a<|Ls (q0d (v:=v') rfl) ?_);refine q3z (v:=.int _ _) rfl rfl ?_;intro u w5 hr E5 _ _;refine q1c (v:=v') (u:=u) rfl rfl (q1p ho E5) hr (by simp [Value.oneCell']) (by omega) (by omega) (by have:=E.size;have:=E5.size;omega) ?_;intro v2 w6 ho2 hg2 hb2;(refine Ls (q0e (v:=v2) rfl)<|q0c<|bn<|tn ?_);refine ⟨Sha.zeros a.length - (k+1),by omega,k+1,v2,rfl,by omega,rfl,rfl,?_,(E.trans E5).then hg2 (fun g h=>(ho.lt g h).1)⟩;have e5:ints .u8 (a++[128]++List.replicate k 0)++[Value.int .u8 0]=ints .u8 (a++[128]++List.replicate (k+1) 0):=by
        rw [List.replicate_succ',← List.append_assoc,q2i _ (a++[128]++List.replicate k 0)];rfl
      rw [e5] at ho2;exact ho2
    · have hk':k=Sha.zeros a.length:=by
        have:¬ ¬ ((((a.length+1+k:Nat):Int) % 64)=56):=h;have h2:=z2m a.length k hk;omega
      subst hk';(refine q1b<|te<|te<|bx<|tn<|q0b<|q0a<|Ls (q0d (v:=v) rfl)<|Ls (q3f (v:=v) rfl (ha.ext E))<|Ls (q1q rfl)<|Ls (q5g rfl rfl)<|a_I rfl<|q0c<|tn<|q0b<|q0b<|q0a<|a_I rfl<|q0c<|tn<|q0j ?_);refine q1k (fun q f w'=>∃ k v',q=8 - k∧k≤8∧f 3=v'∧f 4=.int .u64 (IntKind.u64.wrap (IntKind.u64.wrap (a.length:Nat) * 8))∧f 5=.int .i64 (k:Nat)∧w'.ownsRow w.heap.size 5 1 v' (a.length+1+Sha.zeros a.length+k) (ints .u8 (a++[128]++List.replicate (Sha.zeros a.length) 0++(Sha.lenBytes a.length).take k))∧Ext w w') 8 ?_ ?_
      · exact ⟨0,v',rfl,by omega,rfl,rfl,rfl,by simpa using ho,E⟩
      · rintro q f wr ⟨k,v',rfl,hk,h3,h4,h5,ho,E⟩;rw [fold h3,fold h4,fold h5];(refine q0b<|q0b<|q0a<|m_I rfl<|Ls (q1w rfl rfl)<|q0c<|tn ?_);refine q1d rfl (fun h=>?_) (fun h=>?_)
        · (refine q0o<|tn<|q0b<|q0j<|q0a<|Ls (q0d (v:=v') rfl)<|m_I rfl<|m_I rfl<|Ls (q3q rfl rfl (by omega))<|Ls (q2q rfl rfl (by omega))<|Ls (q4g rfl rfl (by omega))<|Ls (q1q rfl) ?_);refine q3z (v:=.int _ _) rfl rfl ?_;intro u w5 hr E5 _ _;rw [len_walk _ k hl (by omega)] at hr;refine q1c (v:=v') (u:=u) rfl rfl (q1p ho E5) hr (by simp [Value.oneCell']) (by omega) (by omega) (by have:=E.size;have:=E5.size;omega) ?_;intro v2 w6 ho2 hg2 hb2;(refine Ls (q0e (v:=v2) rfl)<|q0c<|bn<|tn<|q0a<|m_I rfl<|Ls (q1e rfl rfl (by omega))<|a_I rfl<|q0c<|tn ?_);refine ⟨8 - (k+1),by omega,k+1,v2,rfl,by omega,rfl,rfl,rfl,?_,(E.trans E5).then hg2 (fun g h=>(ho.lt g h).1)⟩;rw [q9r _ _ (by omega),← List.append_assoc,q2i _ (a++[128]++List.replicate (Sha.zeros a.length) 0++(Sha.lenBytes a.length).take k)];exact ho2
        · (refine q1b<|te<|te<|bx<|tn<|q0b<|q0a<|Ls (q0d (v:=v') rfl)<|Ls (q0e (v:=v') rfl)<|q0c<|tn<|q0r ?_);refine q0i rfl rfl (v:=v') rfl ?_;obtain rfl:k=8:=(by omega);refine ⟨v',rfl,E,?_⟩;rw [Sha.pad_len,Sha.pad];rwa [List.take_of_length_le (by simp [Sha.lenBytes])] at ho
theorem dig_walk (x i:Nat) (_hi:i < 32):IntKind.u8.wrap ((x:Int).fdiv (2 ^ min (24 - 8 * ((i:Int) % 4)).toNat IntKind.u32.bits))=((x / 2 ^ (24 - 8 * (i % 4)) % 256:Nat):Int):=by
  have e:min (24 - 8 * ((i:Int) % 4)).toNat IntKind.u32.bits=24 - 8 * (i % 4):=by
    have:IntKind.u32.bits=32:=rfl;omega
  rw [e,q9w,z1b]
set_option maxHeartbeats 1000000 in
theorem digest (s:Sha.S8) (w:World) :
    Calls Tryz.prog 126 #[.agg (ints .u32 s.list).toArray] w fun e w'=>e=.returned (.agg (ints .u8 (Sha.digest s)).toArray)∧Ext w w':=by
  refine q0l Tryz.func126 rfl Tryz.ntmps126 rfl ?_;(refine q0b<|q0a ?_);refine q3t (l:=ints .u32 s.list) rfl ?_;intro g1 w1 B1 hg1 E1 hs1;refine q0z ?_;intro g2 w2 B2 hg2 E2 hs2;(refine q0c<|tn<|q0b<|q0a ?_);refine Ls X_arrZero ?_;refine q0z ?_;intro g3 w3 B3 hg3 E3 hs3;refine q0m (l:=(List.replicate 32 [Value.int .u8 0]).flatten) rfl rfl rfl (by rw [show (0:Int)=((0:Nat):Int) from rfl,q7i];exact q0w) B3 rfl ?_;intro w4 B4 hg4 hs4;rw [show (0:Int)=((0:Nat):Int) from rfl,q7i] at B4;have E4:Ext w w4:=(E1.trans (E2.trans E3)).then hg4 (fun g h=>by cases h;omega);have C1:=((B1.ext E2).ext E3).grown hg4 (by simp;omega);have C2:=(B2.ext E3).grown hg4 (by simp;omega);(refine q0c<|tn<|q0b<|q0b<|q0a<|a_I rfl<|q0c<|tn<|q0j ?_);refine q1k (fun q f w'=>∃ k,q=32 - k∧k≤32∧f 1=.pointer (some ⟨g1,0,none⟩)∧f 2=.pointer (some ⟨g2,0,none⟩)∧f 3=.pointer (some ⟨g3,0,none⟩)∧f 4=.int .i64 (k:Nat)∧Ext w w' ∧
    Blk w' g1 196 (ints .u32 s.list)∧Blk w' g2 23 (List.replicate 32 [Value.int IntKind.u8 0]).flatten∧Blk w' g3 23 (ints .u8 ((Sha.digest s).take k++List.replicate (32 - k) 0))) 32 ?_ ?_
  · exact ⟨0,rfl,by omega,rfl,rfl,rfl,rfl,E4,C1,C2,B4⟩
  · rintro q f wr ⟨k,rfl,hk,h1,h2,h3,h4,E,D1,D2,D3⟩;rw [fold h1,fold h2,fold h3,fold h4];have hlen:((Sha.digest s).take k).length=k:=(by rw [List.length_take,Sha.digest_len];omega);have hsl:s.list.length=8:=rfl;(refine q0b<|q0b<|q0a<|m_I rfl<|Ls (q1w rfl rfl)<|q0c<|tn ?_);refine q1d rfl (fun h=>?_) (fun h=>?_)
    · (refine q0o<|tn<|q0b<|q0j<|q0a<|m_I rfl<|m_I rfl<|Ls (q5d rfl rfl (by omega))<|Ls (q1g rfl rfl (by omega))<|Ls (q3s rfl D1 (by omega))<|m_I rfl<|Ls (q4o rfl rfl (by omega))<|Ls (q3q rfl rfl (by omega))<|Ls (q2q rfl rfl (by omega))<|Ls (q4g rfl rfl (by omega))<|Ls (q1q rfl)<|Ls (q1s rfl rfl (by omega)) ?_);refine q1a rfl (v:=.int _ _) rfl rfl D3 (by rw [q0t,List.length_append,hlen];simp;omega) ?_;intro w5 B5 hg5 _;(refine q0c<|bn<|tn<|q0a<|m_I rfl<|Ls (q1e rfl rfl (by omega))<|a_I rfl<|q0c<|tn ?_);refine ⟨32 - (k+1),by omega,k+1,rfl,by omega,rfl,rfl,rfl,rfl,E.then hg5 (fun g h=>by cases h;omega),D1.grown hg5 (by simp;omega),D2.grown hg5 (by simp;omega),?_⟩;have hkl:k < (Sha.digest s).length:=(by rw [Sha.digest_len];omega);rw [show (0+((k:Int) / 4).toNat * 1)=k / 4 by omega,dig_walk _ k (by omega),q7h,show 32 - k=(32 - (k+1))+1 by omega,z3l _ _ _ _ (by omega)] at B5;have e:(Sha.digest s).take (k+1)=(Sha.digest s).take k++[s.list.getD (k / 4) 0 / 2 ^ (24 - 8 * (k % 4)) % 256]:=by
        rw [List.take_succ_eq_append_getElem hkl];simp [Sha.digest]
      rw [e];exact B5
    · obtain rfl:k=32:=(by omega);have hfull:(Sha.digest s).take 32++List.replicate (32 - 32) 0=Sha.digest s:=(by simp [List.take_of_length_le (show (Sha.digest s).length≤32 by rw [Sha.digest_len];omega)]);rw [hfull] at D3;(refine q1b<|te<|te<|bx<|tn<|q0b<|q0a ?_);refine Ls (q2o rfl D3 (by simp [q0t,Sha.digest_len])) ?_;refine q0m rfl rfl (by simp [q0t,Sha.digest_len]) q0w D2 rfl ?_;intro w8 B8 hg8 _;(refine q0c<|tn<|q0r ?_);refine q1h rfl rfl (Res.cellA inferInstance rfl (B8.range (fun j u h=>by simpa using h)) (by simp [q0t,Sha.digest_len]) .nil) ?_;exact ⟨rfl,E.then hg8 (fun g h=>by cases h;omega)⟩
set_option maxHeartbeats 1000000 in
theorem sum (lo hi:Nat) (v:Value) (a:List Nat) (ha8:Sha.bytesOk a) (w:World) (ha:Row w lo hi 1 v a.length (ints .u8 a)) (hl:a.length≤1000000000) :
    Calls Tryz.prog 93 #[v] w fun e w'=>e=.returned (.agg (ints .u8 (Sha.sum a)).toArray)∧Ext w w':=by
  refine q0l Tryz.func93 rfl Tryz.ntmps93 rfl ?_;have hp:(Sha.pad a).length % 64=0:=by rw [Sha.pad_len];have:=Sha.pad_mod a.length;omega
  have hp0:(Sha.pad a).length≤1000000100:=by rw [Sha.pad_len];have:=q8m a.length;omega
  have hp8:Sha.bytesOk (Sha.pad a):=by
    intro x hx;simp only [Sha.pad,List.mem_append,List.mem_singleton] at hx;rcases hx with ((hx | rfl) | hx) | hx
    · exact ha8 x hx
    · omega
    · rw [List.eq_of_mem_replicate hx];omega
    · obtain ⟨i,_,rfl⟩:=List.mem_map.1 hx;exact Nat.mod_lt _ (by omega)
  (refine q0b<|q0a ?_);refine q0z ?_;intro g2 w1 B2 hg2 E1 hs1;(refine q0c<|tn<|q0b<|q0a ?_);refine L_fv rfl (initial w1) ?_;intro w2 E2;(refine Ls (q0d (v:=v) rfl) ?_);refine L_fo rfl (pad lo hi v a w2 ((ha.ext E1).ext E2) hl) ?_;rintro p w3 ⟨E3,op⟩;refine q0z ?_;intro g3 w4 B3 hg3 E4 hs4;refine q0m (l:=ints .u32 Sha.iv.list) rfl rfl rfl q0w B3 rfl ?_;intro w5 B5 hg5 hs5;have hs2:=E2.size;have hs3:=E3.size;have E5:Ext w w5:=((E1.trans E2).trans (E3.trans E4)).then hg5 (fun g h=>by cases h;omega);have C2:=(((B2.ext E2).ext E3).ext E4).grown hg5 (by simp;omega);have rp:=((Row.of_own op).ext E4).grown hg5 (fun g h=>by cases h;omega);(refine Ls (q0e (v:=p) rfl)<|q0c<|tn<|q0b<|q0b<|q0a<|a_I rfl<|q0c<|tn<|q0j ?_);refine q1k (fun q f w'=>∃ k,q=(Sha.pad a).length / 64 - k∧64 * k≤(Sha.pad a).length∧f 2=.pointer (some ⟨g2,0,none⟩)∧f 3=.pointer (some ⟨g3,0,none⟩)∧f 4=p∧f 5=.int .i64 ((64 * k:Nat):Int)∧Ext w w' ∧
    Blk w' g2 23 (List.replicate 32 [Value.int IntKind.u8 0]).flatten∧Blk w' g3 196 (ints .u32 (Sha.blocks (Sha.pad a) k).list)∧Row w' w2.heap.size w3.heap.size 1 p (Sha.pad a).length (ints .u8 (Sha.pad a))) ((Sha.pad a).length / 64) ?_ ?_
  · exact ⟨0,rfl,by omega,rfl,rfl,rfl,rfl,E5,C2,B5,rp⟩
  · rintro q f wr ⟨k,rfl,hk,h2,h3,h4,h5,E,D2,D3,rp⟩;rw [fold h2,fold h3,fold h4,fold h5];(refine q0b<|q0b<|q0a<|m_I rfl<|Ls (q0d (v:=p) rfl)<|Ls (q3f (v:=p) rfl rp)<|Ls (q1w rfl rfl)<|q0c<|tn ?_);refine q1d rfl (fun h=>?_) (fun h=>?_)
    · have rp':=rp;obtain ⟨_,A0,c0,rfl,hc0,_,_⟩:=rp';have hrow:=rp.cut (i:=64 * k) (j:=64 * k+64) (q:=64) (by omega) (by omega) (by omega);have hblen:(((Sha.pad a).drop (64 * k)).take 64).length=64:=(by simp;omega);obtain ⟨C,hC⟩:∃ C,C=Sha.blocks (Sha.pad a) (k+1):=⟨_,rfl⟩;have cC:∀ w,Ext wr w→Calls Tryz.prog 125 #[.agg (ints .u32 (Sha.blocks (Sha.pad a) k).list).toArray,.slice (if c0=64 * k then A0 else A0.map (·.add (64 * k * 1))) (64 * k+64 - 64 * k) (c0 - 64 * k)] w fun e w'=>e=.returned (.agg (ints .u32 C.list).toArray)∧Ext w w':=by
        intro w hA;rw [hC];exact compress _ _ _ _ (Sha.blocks_ok _ _) _ hblen (fun x hx=>hp8 x (List.mem_of_mem_drop (List.mem_of_mem_take hx))) w (hrow.ext hA)
      (refine q0o<|tn<|q0b<|q0j ?_);apply q1r 7 (by kernel_rfl);(apply DW_x (fun r w hA hH=>(q2o rfl (D3.ext hA) rfl).trans rfl);apply DW_x (fun r w hA hH=>(q0d (v:=.slice _ _ _) rfl).trans rfl);apply DW_x (fun r w hA hH=>(q0d (v:=.int _ _) rfl).trans rfl);apply DW_x (fun r w hA hH=>(q0d (v:=.int _ _) rfl).trans rfl);apply DW_x (fun r w hA hH=>(q1e rfl rfl (by omega)).trans rfl));((with_reducible apply DW_x);(exact fun r w hA hH=>(z0e (64 * k) (64 * k+64) rfl rfl rfl rfl rfl (by omega) (by omega)).trans rfl));((with_reducible apply q4r);(exact fun _=>rfl);(exact fun _=>rfl);(exact fun r w hA hH=>cC w hA));((with_reducible exact q2e);(exact rfl);(repeat (first | exact .inr (.inr (fun _ _=>by with_reducible rfl)) | (refine And.intro ?_ ?_) | exact .inr (.inl rfl) | exact .inl (by decide +kernel) | exact trivial | exact .inr (.inr (fun _ _=>rfl))));(try dsimp only [Nat.reduceAdd]));intro r w6 E6 _;refine q0m (l:=ints .u32 C.list) rfl rfl (by simp only [q0t,Sha.list_len]) q0w (D3.ext E6) rfl ?_;intro w7 B7 hg7 _;(refine q0c<|bn<|tn<|q0a<|m_I rfl<|Ls (q1e rfl rfl (by omega))<|a_I rfl<|q0c<|tn ?_);have hs6:=E6.size;refine ⟨(Sha.pad a).length / 64 - (k+1),by omega,k+1,rfl,by omega,rfl,rfl,rfl,congrArg (Value.int IntKind.i64) (show ((64 * k:Nat):Int)+64=((64 * (k+1):Nat):Int) by omega),(E.trans E6).then hg7 (fun g h=>by cases h;omega),(D2.ext E6).grown hg7 (by simp;omega),by rw [← hC];exact B7,(rp.ext E6).grown hg7 (fun g h=>by cases h;omega)⟩
    · obtain rfl:k=(Sha.pad a).length / 64:=(by omega);(refine q1b<|te<|te<|bx<|tn<|q0b<|q0a<|Ls (q2o rfl D3 rfl) ?_);refine L_fv rfl (digest _ wr) ?_;intro w6 E6;refine q0m (l:=ints .u8 (Sha.sum a)) rfl rfl (by rw [q0t];exact Sha.digest_len _) q0w (D2.ext E6) rfl ?_;intro w7 B7 hg7 _;(refine q0c<|tn<|q0r ?_);refine q1h rfl rfl (Res.cellA inferInstance rfl (B7.range (fun j u h=>by simpa using h)) (by rw [q0t];exact Sha.digest_len _) .nil) ?_;have hs6:=E6.size;exact ⟨rfl,(E.trans E6).then hg7 (fun g h=>by cases h;omega)⟩
theorem rotl_and (m:Nat) (hm:0 < m∧m < 32):bits BinOp.and IntKind.u64 (IntKind.u64.wrap (-(m:Int))) 31=((32 - m:Nat):Int):=by
  have h:∀ m:Fin 32,0 < m.1→bits BinOp.and IntKind.u64 (IntKind.u64.wrap (-(m.1:Int))) 31=((32 - m.1:Nat):Int):=by decide +kernel
  exact h ⟨m,hm.2⟩ hm.1
theorem rotl (x m:Nat) (hx:x < 4294967296) (hm:0 < m∧m < 32) (w:World) :
    Calls Tryz.prog 177 #[.int .u32 (x:Nat),.int .i64 (-(m:Nat))] w fun e w'=>e=.returned (.int .u32 ((Sha.rotr x m:Nat):Int))∧Ext w w':=by
  refine q0l Tryz.func177 rfl Tryz.ntmps177 rfl ?_;(refine q0b<|q0a<|a_I rfl<|q0c<|tn<|q0b<|q0a<|m_I rfl<|Ls (q1q rfl)<|Ls (q4q rfl rfl)<|a_I rfl<|q0c<|tn<|q0b<|q0a<|m_I rfl<|m_I rfl ?_);rw [rotl_and m hm];(refine Ls (q6h rfl rfl (by omega))<|m_I rfl<|m_I rfl<|Ls (q7a rfl rfl) ?_);have e1:IntKind.u64.wrap ((32:Int) - ((32 - m:Nat):Int))=((m:Nat):Int):=by rw [IntKind.wrap_u64];omega
  rw [e1];(refine Ls (q4g rfl rfl (by omega))<|Ls (X_or rfl rfl)<|a_I rfl<|q0c<|tn<|q0r ?_);refine q0i rfl rfl (v:=.int _ _) rfl ?_;refine ⟨?_,Ext.refl w⟩;have e:IntKind.u32.bits=32:=rfl;have e2:(x:Int) * 2 ^ (32 - m)=((x * 2 ^ (32 - m):Nat):Int):=by simp
  rw [e,Nat.min_eq_left (by omega),Nat.min_eq_left (by omega),q9w,show (((32 - m:Nat):Int)).toNat=32 - m by omega,e2,z3h,q6e _ _ (Nat.mod_lt _ (by omega)) (Nat.lt_of_le_of_lt (Nat.div_le_self _ _) hx),Nat.or_comm];rfl
def beP (b:List Nat) (i:Nat):Nat→Nat
  | 0=>0
  | j+1=>beP b i j * 256+b.getD (4 * i+j) 0
theorem beP_four (b:List Nat) (i:Nat):beP b i 4=Sha.be32 b i:=by
  simp only [beP,Sha.be32,Nat.add_zero];omega
theorem beP_lt {b:List Nat} (hb:Sha.bytesOk b) (i j:Nat):beP b i j < 256 ^ j:=by
  induction j with
  | zero=>simp [beP]
  | succ j ih =>
    have:b.getD (4 * i+j) 0 < 256:=Sha.getD_lt hb (by omega);simp only [beP,Nat.pow_succ];omega
theorem shl8_walk (x b:Nat) (hx:x < 16777216) (hb:b < 256):bits BinOp.or IntKind.u32 (IntKind.u32.wrap ((x:Int) * 2 ^ min (Int.toNat 8) IntKind.u32.bits)) (IntKind.u32.wrap (b:Int))=((x * 256+b:Nat):Int):=by
  have e:(x:Int) * 2 ^ min (Int.toNat 8) IntKind.u32.bits=((x * 256:Nat):Int):=by
    rw [show min (Int.toNat 8) IntKind.u32.bits=8 from rfl];omega
  rw [e,z3h,z3h,Nat.mod_eq_of_lt (by omega),Nat.mod_eq_of_lt (by omega),q6e _ _ (by omega) (by omega)];rw [show x * 256=2 ^ 8 * x by omega,Nat.two_pow_add_eq_or_of_lt (show b < 2 ^ 8 by omega)]
set_option maxHeartbeats 1000000 in
theorem gschedule (lo hi:Nat) (v:Value) (bl:List Nat) (hlen:bl.length=64) (hb:Sha.bytesOk bl) (w:World) (hr:Row w lo hi 1 v 64 (ints .u8 bl)) :
    Calls Tryz.prog 176 #[v] w fun e w'=>e=.returned (.agg (ints .u32 (Sha.sched bl 64)).toArray)∧Ext w w':=by
  obtain ⟨b0,o0,c0,rfl,hc0,_,_,hcell⟩:=hr.at (k:=0) (by omega);refine q0l Tryz.func176 rfl Tryz.ntmps176 rfl ?_;(refine q0b<|q0a ?_);refine q0z ?_;intro g2 w1 B2 hg2 E1 hs1;(refine q0c<|tn<|q0b<|q0a ?_);refine q0z ?_;intro g3 w2 B3 hg3 E2 hs2;rw [show (0:Int)=((0:Nat):Int) from rfl,q7i] at B3;(refine q0c<|tn<|q0b<|q0b<|q0a<|m_I rfl<|q0c<|tn<|q0j ?_);refine q1k (fun q f w'=>∃ k,q=16 - k∧k≤16∧f 0=.slice (some ⟨b0,o0,none⟩) 64 c0∧f 2=.pointer (some ⟨g2,0,none⟩)∧f 3=.pointer (some ⟨g3,0,none⟩)∧f 12=.int .i64 (k:Nat)∧Ext w w' ∧
    Blk w' g3 291 (ints .u32 (Sha.sched bl k++List.replicate (64 - k) 0))∧Blk w' g2 291 (List.replicate 64 [Value.int IntKind.u32 0]).flatten) 16 ?_ ?_
  · exact ⟨0,rfl,by omega,rfl,rfl,rfl,rfl,E1.trans E2,B3,B2.ext E2⟩
  · rintro q f wr ⟨k,rfl,hk,h0,h2,h3,h12,E,B,BB⟩;rw [fold h0,fold h2,fold h3,fold h12];have hsl:(Sha.sched bl k).length=k:=Sha.sched_len bl k;(refine q0b<|q0a<|Ls (q1w rfl rfl)<|q0c<|tn<|q0b ?_);refine q1d rfl (fun h=>?_) (fun h=>?_)
    · (refine q0o<|tn<|q0b<|q0j<|q0b<|q0a<|m_I rfl<|a_I rfl<|q0c<|tn<|q0b<|q0a<|m_S rfl<|m_I rfl<|Ls (q3q rfl rfl (by omega))<|m_I rfl<|Ls (q3q rfl rfl (by omega))<|Ls (q1e rfl rfl (by omega)) ?_);have hcut:=hr.cut (i:=4 * k) (j:=4 * k+4) (q:=4) (by omega) (by omega) (by omega);refine Ls (z0e (4 * k) (4 * k+4) rfl rfl rfl (by omega) (by omega) (by omega) (by omega)) ?_;obtain ⟨b1,o1,c1,hv,hc1,_,_,hR⟩:=hcut.at (k:=0) (by omega);rw [hv];(refine Ls (q0h rfl)<|m_I rfl<|q0c<|tn<|q0j ?_);have B0:Blk wr g3 291 (ints .u32 (Sha.sched bl k++beP bl k 0 :: List.replicate (63 - k) 0)):=by
        rw [show 64 - k=(63 - k)+1 by omega,List.replicate_succ] at B;exact B
      refine q1k (fun q f w'=>∃ j,q=4 - j∧j≤4∧f 0=.slice (some ⟨b0,o0,none⟩) 64 c0∧f 2=.pointer (some ⟨g2,0,none⟩)∧f 3=.pointer (some ⟨g3,0,none⟩)∧f 12=.int .i64 (k:Nat)∧f 4=.int .i64 (k:Nat) ∧
        f 21=.slice (some ⟨b1,o1,none⟩) 4 c1∧f 22=.int .i64 4∧f 23=.int .i64 (j:Nat)∧Ext w w' ∧
        Blk w' g3 291 (ints .u32 (Sha.sched bl k++beP bl k j :: List.replicate (63 - k) 0))∧Blk w' g2 291 (List.replicate 64 [Value.int IntKind.u32 0]).flatten) 4 ?_ ?_
      · exact ⟨0,rfl,by omega,rfl,rfl,rfl,rfl,rfl,rfl,rfl,rfl,E,B0,BB⟩
      · clear B0 B BB E h0 h2 h3 h12;rintro q f wx ⟨j,rfl,hj,h0,h2,h3,h12,h4,h21,h22,h23,E,B,BB⟩;rw [fold h0,fold h2,fold h3,fold h12,fold h4,fold h21,fold h22,fold h23];have hTl:(Sha.sched bl k++beP bl k j :: List.replicate (63 - k) 0).length=64:=(by simp [hsl];omega);(refine q0b<|q0a<|Ls (q1w rfl rfl)<|q0c<|tn<|q0b ?_);refine q1d rfl (fun h=>?_) (fun h=>?_)
        · have hbl:((bl.drop (4 * k)).take 4).length=4:=(by simp;omega);(refine q0o<|tn<|q0b<|q0j<|q0b<|q0a<|Ls (q0n rfl rfl (by omega))<|Ls (X_ldRI rfl (E.range hR) (by omega))<|a_I rfl<|q0c<|tn<|q0a<|m_I rfl<|m_I rfl<|Ls (q1s rfl rfl (by omega))<|Ls (q3s rfl B (by rw [hTl];omega))<|Ls (q6h rfl rfl (by omega))<|m_I rfl<|Ls (q1q rfl)<|Ls (X_or rfl rfl)<|Ls (q1s rfl rfl (by omega)) ?_);refine q1a rfl (v:=.int _ _) rfl rfl B (by rw [q0t,hTl];omega) ?_;intro w5 B5 hg5 _;(refine q0c<|bn<|tn<|q0a<|Ls (q1e rfl rfl (by omega))<|m_I rfl<|q0c<|tn ?_);have e1:(Sha.sched bl k++beP bl k j :: List.replicate (63 - k) 0).getD (0+k * 1) 0=beP bl k j:=(by simp [List.getD,hsl]);have e2:((bl.drop (4 * k)).take 4).getD j 0=bl.getD (4 * k+j) 0:=(by simp [List.getD,show j < 4 by omega]);have hlt:=beP_lt hb k j;have:256 ^ j≤256 ^ 3:=Nat.pow_le_pow_right (by omega) (by omega);have e3:(Sha.sched bl k++beP bl k j :: List.replicate (63 - k) 0).set (0+k * 1) (beP bl k (j+1))=Sha.sched bl k++beP bl k (j+1) :: List.replicate (63 - k) 0:=(by simp [hsl]);rw [e1,e2,shl8_walk _ _ (by omega) (Sha.getD_lt hb (by omega)),q7h] at B5;refine ⟨4 - (j+1),by omega,j+1,rfl,by omega,rfl,rfl,rfl,rfl,rfl,rfl,rfl,rfl,E.then hg5 (fun g h=>by cases h;have:=E1.size;omega),?_,BB.grown hg5 (by simp;omega)⟩;rw [← e3];exact B5
        · obtain rfl:j=4:=(by omega);(refine q1b<|te<|te<|bx<|bn<|tn<|q0a<|Ls (q1e rfl rfl (by omega))<|m_I rfl<|q0c<|tn ?_);refine ⟨16 - (k+1),by omega,k+1,rfl,by omega,rfl,rfl,rfl,rfl,E,?_,BB⟩;rw [beP_four] at B;have e:Sha.sched bl (k+1)=Sha.sched bl k++[Sha.be32 bl k]:=by
            show Sha.sched bl k++[Sha.wnext bl (Sha.sched bl k) k]=_;rw [Sha.wnext,if_pos (by omega)]
          rw [e,show 64 - (k+1)=63 - k by omega];simpa using B
    · obtain rfl:k=16:=(by omega);(refine q1b<|te<|te<|bx<|tn<|q0b<|q0b<|q0a<|a_I rfl<|q0c<|tn<|q0j ?_);refine q1k (fun q f w'=>∃ k,q=64 - k∧16≤k∧k≤64∧f 2=.pointer (some ⟨g2,0,none⟩)∧f 3=.pointer (some ⟨g3,0,none⟩)∧f 7=.int .i64 (k:Nat)∧Ext w w' ∧
        Blk w' g3 291 (ints .u32 (Sha.sched bl k++List.replicate (64 - k) 0))∧Blk w' g2 291 (List.replicate 64 [Value.int IntKind.u32 0]).flatten) 48 ?_ ?_
      · exact ⟨16,rfl,by omega,by omega,rfl,rfl,rfl,E,B,BB⟩
      · clear B BB E h0 h2 h3 h12 hsl;rintro q f wr ⟨k,rfl,hk0,hk,h2,h3,h7,E,B,BB⟩;rw [fold h2,fold h3,fold h7];have hsl:(Sha.sched bl k).length=k:=Sha.sched_len bl k
        have hT:∀ i,(Sha.sched bl k++List.replicate (64 - k) 0).getD i 0 < 4294967296:=fun i=>Sha.getD_lt (fun x hx=>by
          rcases List.mem_append.1 hx with hx | hx
          · exact Sha.sched_ok hb k x hx
          · rw [List.eq_of_mem_replicate hx];omega) (by omega)
        have hTl:(Sha.sched bl k++List.replicate (64 - k) 0).length=64:=(by simp [hsl];omega);(refine q0b<|q0b<|q0a<|m_I rfl<|Ls (q1w rfl rfl)<|q0c<|tn ?_);refine q1d rfl (fun h=>?_) (fun h=>?_)
        · (refine q0o<|tn<|q0b<|q0j<|q0b ?_);apply q1r 10 (by kernel_rfl);(apply DW_x (fun r w hA hH=>(q0d (v:=.int _ _) rfl).trans rfl);apply DW_x (fun r w hA hH=>(q2q rfl rfl (by omega)).trans rfl);apply DW_x (fun r w hA hH=>(q1g rfl rfl (by omega)).trans rfl);apply DW_x (fun r w hA hH=>(q3s rfl (B.ext hA) (by rw [hTl];omega)).trans rfl);apply DW_x (fun r w hA hH=>(q0d (v:=.int _ _) rfl).trans rfl);apply DW_x (fun r w hA hH=>(q2q rfl rfl (by omega)).trans rfl);apply DW_x (fun r w hA hH=>(q1g rfl rfl (by omega)).trans rfl);apply DW_x (fun r w hA hH=>(q3s rfl (B.ext hA) (by rw [hTl];omega)).trans rfl);apply DW_x (fun r w hA hH=>(q0e (v:=.int _ _) rfl).trans rfl);apply DW_x (fun r w hA hH=>(q0e (v:=.int _ _) rfl).trans rfl));((with_reducible exact q2e);(exact rfl);(repeat (first | exact .inr (.inr (fun _ _=>by with_reducible rfl)) | (refine And.intro ?_ ?_) | exact .inr (.inl rfl) | exact .inl (by decide +kernel) | exact trivial | exact .inr (.inr (fun _ _=>rfl))));(try dsimp only [Nat.reduceAdd]));intro r w4 E4 _;(refine q0c<|tn<|q0b<|q0a<|m_I rfl ?_);refine L_fv rfl (rotl _ 7 (hT _) (by omega) w4) ?_;intro w5 E5;(refine m_I rfl ?_);refine L_fv rfl (rotl _ 18 (hT _) (by omega) w5) ?_;intro w6 E6;(refine Ls (q4a rfl rfl)<|m_I rfl<|Ls (q4g rfl rfl (by omega))<|Ls (q4a rfl rfl)<|a_I rfl<|q0c<|tn<|q0b<|q0a<|m_I rfl ?_);refine L_fv rfl (rotl _ 17 (hT _) (by omega) w6) ?_;intro w7 E7;(refine m_I rfl ?_);refine L_fv rfl (rotl _ 19 (hT _) (by omega) w7) ?_;intro w8 E8;have Ea:=E4.trans (E5.trans (E6.trans (E7.trans E8)));(refine Ls (q4a rfl rfl)<|m_I rfl<|Ls (q4g rfl rfl (by omega))<|Ls (q4a rfl rfl)<|a_I rfl<|q0c<|tn ?_);apply q1r 15 (by kernel_rfl);(apply DW_x (fun r w hA hH=>(q0d (v:=.int _ _) rfl).trans rfl);apply DW_x (fun r w hA hH=>(q0d (v:=.int _ _) rfl).trans rfl);apply DW_x (fun r w hA hH=>(q2q rfl rfl (by omega)).trans rfl);apply DW_x (fun r w hA hH=>(q1g rfl rfl (by omega)).trans rfl);apply DW_x (fun r w hA hH=>(q3s rfl ((B.ext Ea).ext hA) (by rw [hTl];omega)).trans rfl);apply DW_x (fun r w hA hH=>(q0d (v:=.int _ _) rfl).trans rfl);apply DW_x (fun r w hA hH=>(q3b rfl rfl).trans rfl);apply DW_x (fun r w hA hH=>(q0d (v:=.int _ _) rfl).trans rfl);apply DW_x (fun r w hA hH=>(q2q rfl rfl (by omega)).trans rfl);apply DW_x (fun r w hA hH=>(q1g rfl rfl (by omega)).trans rfl);apply DW_x (fun r w hA hH=>(q3s rfl ((B.ext Ea).ext hA) (by rw [hTl];omega)).trans rfl);apply DW_x (fun r w hA hH=>(q3b rfl rfl).trans rfl);apply DW_x (fun r w hA hH=>(q0d (v:=.int _ _) rfl).trans rfl);apply DW_x (fun r w hA hH=>(q3b rfl rfl).trans rfl);apply DW_x (fun r w hA hH=>(q1s rfl rfl (by omega)).trans rfl));((with_reducible exact q2e);(exact rfl);(repeat (first | exact .inr (.inr (fun _ _=>by with_reducible rfl)) | (refine And.intro ?_ ?_) | exact .inr (.inl rfl) | exact .inl (by decide +kernel) | exact trivial | exact .inr (.inr (fun _ _=>rfl))));(try dsimp only [Nat.reduceAdd]));intro r w9 E9 _;refine q1a rfl (v:=.int _ _) rfl rfl ((B.ext Ea).ext E9) (by rw [q0t,hTl];omega) ?_;intro w10 B10 hg10 _;(refine q0c<|bn<|tn<|q0a<|m_I rfl<|Ls (q1e rfl rfl (by omega))<|a_I rfl<|q0c<|tn ?_);have s0:=z3p _ 7 18 3 (hT (k - 15)) (by omega);have s1:=z3p _ 17 19 10 (hT (k - 2)) (by omega)
          rw [show (0+((k:Int) - 16).toNat * 1)=k - 16 from by omega,show (0+((k:Int) - 15).toNat * 1)=k - 15 from by omega,show (0+((k:Int) - 7).toNat * 1)=k - 7 from by omega,show (0+((k:Int) - 2).toNat * 1)=k - 2 from by omega,
            show Int.toNat 3=Int.toNat ((3:Nat):Int) from rfl,show Int.toNat 10=Int.toNat ((10:Nat):Int) from rfl,s0,s1,wr3,q7z _ _ _ (by omega),q7z _ _ _ (by omega),q7z _ _ _ (by omega),q7z _ _ _ (by omega),q7h,show (0+k * 1)=k by omega,
            show 64 - k=(64 - (k+1))+1 from by omega,z3l _ _ _ _ hsl.symm] at B10
          have e:Sha.sched bl (k+1)=Sha.sched bl k++[((Sha.sched bl k).getD (k - 16) 0+Sha.sg0 ((Sha.sched bl k).getD (k - 15) 0)+(Sha.sched bl k).getD (k - 7) 0+Sha.sg1 ((Sha.sched bl k).getD (k - 2) 0)) % 4294967296]:=by
            show Sha.sched bl k++[Sha.wnext bl (Sha.sched bl k) k]=_;rw [Sha.wnext,if_neg (by omega)]
          refine ⟨64 - (k+1),by omega,k+1,rfl,by omega,by omega,rfl,rfl,rfl,(E.trans (Ea.trans E9)).then hg10 (fun g h=>by cases h;have:=E1.size;omega),?_,(BB.ext (Ea.trans E9)).grown hg10 (by simp;omega)⟩;rw [e];exact B10
        · obtain rfl:k=64:=(by omega);(refine q1b<|te<|te<|bx<|tn<|q0b<|q0a ?_);have B':Blk wr g3 291 (ints .u32 (Sha.sched bl 64)):=(by simpa using B);refine Ls (q2o rfl B' (by simp [q0t,Sha.sched_len])) ?_;refine q0m (l:=ints .u32 (Sha.sched bl 64)) rfl rfl (by simp [q0t,Sha.sched_len]) q0w BB rfl ?_;intro w8 B8 hg8 _;(refine q0c<|tn<|q0r ?_);refine q1h rfl rfl (Res.cellA inferInstance rfl (B8.range (fun j u h=>by simpa using h)) (by simp [q0t,Sha.sched_len]) .nil) ?_;exact ⟨rfl,E.then hg8 (fun g h=>by cases h;omega)⟩
theorem maj_or (a b c:Nat):(a &&& b) ^^^ (a &&& c) ^^^ (b &&& c)=(a &&& b) ||| (a &&& c) ||| (b &&& c):=by
  apply Nat.eq_of_testBit_eq;intro i;simp only [Nat.testBit_xor,Nat.testBit_and,Nat.testBit_or];cases a.testBit i <;> cases b.testBit i <;> cases c.testBit i <;> rfl
theorem addS_get (S R:Sha.S8) (j:Nat) (hj:j < 8):(Sha.addS S R).list.getD j 0=(S.list.getD j 0+R.list.getD j 0) % 4294967296:=by
  match j,hj with
  | 0,_ | 1,_ | 2,_ | 3,_ | 4,_ | 5,_ | 6,_ | 7,_=>rfl
theorem mix_get (a b:List Nat) (j:Nat) (h:a.length=b.length) (hj:j < b.length):(a.take j++b.drop j).getD j 0=b.getD j 0:=by
  simp [List.getD,List.getElem?_append,hj,show min j a.length=j by omega]
theorem mix_set (a b:List Nat) (j:Nat) (h:a.length=b.length) (hj:j < b.length):(a.take j++b.drop j).set j (a.getD j 0)=a.take (j+1)++b.drop (j+1):=by
  have hl:(a.take j).length=j:=by simp;omega
  rw [List.set_append_right _ _ (by omega),hl,Nat.sub_self,List.drop_eq_getElem_cons hj,List.set_cons_zero,List.take_succ_eq_append_getElem (by omega),List.append_assoc];simp [List.getD,show j < a.length by omega]
theorem wr3b (a b c:Nat):IntKind.u32.wrap (IntKind.u32.wrap ((a:Int)+(b:Nat))+(c:Nat))=(((a+(b+c) % 4294967296) % 4294967296:Nat):Int):=by
  simp only [IntKind.wrap_u32];omega
theorem ones_xor (e:Nat) (he:e < 4294967296):4294967295 ^^^ e=4294967295 - e:=by
  have h:(BitVec.allOnes 32 ^^^ BitVec.ofNat 32 e).toNat=(~~~ BitVec.ofNat 32 e).toNat:=by rw [BitVec.allOnes_xor]
  rw [BitVec.toNat_xor,BitVec.toNat_not,BitVec.toNat_ofNat,Nat.mod_eq_of_lt he,BitVec.toNat_allOnes] at h;exact h
theorem inv_xor (e:Nat) (he:e < 4294967296):bits BinOp.xor IntKind.u32 (if IntKind.u32.signed=true then -1 else IntKind.u32.max) (e:Int)=IntKind.u32.wrap (4294967295 - (e:Int)):=by
  rw [show (if IntKind.u32.signed=true then (-1:Int) else IntKind.u32.max)=((4294967295:Nat):Int) from rfl,q3v _ _ (by omega) he,ones_xor e he,inv_walk e he]
theorem maj_walk (a b c:Nat) (ha:a < 4294967296) (hb:b < 4294967296) (hc:c < 4294967296):bits BinOp.xor IntKind.u32 (bits BinOp.xor IntKind.u32 (bits BinOp.and IntKind.u32 (a:Int) (b:Int)) (bits BinOp.and IntKind.u32 (a:Int) (c:Int))) (bits BinOp.and IntKind.u32 (b:Int) (c:Int))=((Sha.maj a b c:Nat):Int):=by
  rw [q3w _ _ ha hb,q3w _ _ ha hc,q3w _ _ hb hc,q3v _ _ (Sha.and_lt hb) (Sha.and_lt hc),q3v _ _ (Sha.xor_lt (Sha.and_lt hb) (Sha.and_lt hc)) (Sha.and_lt hc),maj_or];rfl
set_option maxHeartbeats 2000000 in
theorem gcompress (g lo hi:Nat) (v:Value) (S:Sha.S8) (hS:S.ok) (bl:List Nat) (hlen:bl.length=64) (hb:Sha.bytesOk bl) (w:World) (hr:Row w lo hi 1 v 64 (ints .u8 bl)) (hg:Blk w g 197 (ints .u32 S.list))
    (hk:Rng w 1 (ints .u32 Sha.ks)) :
    Calls Tryz.prog 120 #[.pointer (some ⟨g,0,none⟩),v] w fun e w'=>e=.returned (.tuple #[])∧Blk w' g 197 (ints .u32 (Sha.compress S bl).list)∧w.grownBy w' (some g):=by
  refine q0l Tryz.func120 rfl Tryz.ntmps120 rfl ?_;(refine q0b<|q0a<|Ls (q0d (v:=v) rfl) ?_);refine L_fv rfl (gschedule lo hi v bl hlen hb w hr) ?_;intro w1 E1;refine q0z ?_;intro g4 w2 B4 hg4 E2 hs2;refine q0m (l:=ints .u32 (Sha.sched bl 64)) rfl rfl (by simp [q0t,Sha.sched_len]) q0w B4 rfl ?_;intro w3 B4' hg3 hs3;have E3:Ext w w3:=(E1.trans E2).then hg3 (fun g h=>by cases h;have:=E1.size;omega);have G3:=hg.ext E3;(refine q0c<|tn<|q0b<|q0a<|m_P rfl<|Ls (q1l rfl)<|Ls (q2o rfl G3 rfl) ?_);refine q0z ?_;intro g5 w4 B5 hg5 E4 hs4;refine q0m (l:=ints .u32 S.list) rfl rfl rfl q0w B5 rfl ?_;intro w5 B5' hgg5 hs5;have E5:Ext w w5:=(E3.trans E4).then hgg5 (fun g h=>by cases h;have:=E3.size;omega);have C4:=(B4'.ext E4).grown hgg5 (by simp;omega);have hglt:g < w.heap.size:=hg.lt;(refine q0c<|tn<|q0b<|q0b<|q0a<|m_I rfl<|q0c<|tn<|q0j ?_);refine q1k (fun q f w'=>∃ k,q=64 - k∧k≤64∧f 0=.pointer (some ⟨g,0,none⟩)∧f 4=.pointer (some ⟨g4,0,none⟩)∧f 5=.pointer (some ⟨g5,0,none⟩)∧f 21=.int .i64 (k:Nat)∧Ext w w' ∧
    Blk w' g4 291 (ints .u32 (Sha.sched bl 64))∧Blk w' g5 197 (ints .u32 (Sha.rounds S (Sha.sched bl 64) k).list)) 64 ?_ ?_
  · exact ⟨0,rfl,by omega,rfl,rfl,rfl,rfl,E5,C4,B5'⟩
  · clear B5 B5' C4;rintro q f wr ⟨k,rfl,hkk,h0,h4,h5,h21,E,D4,D5⟩;rw [fold h0,fold h4,fold h5,fold h21];have hok:=Sha.rounds_ok hS (Sha.sched bl 64) k;have hnext:Sha.rounds S (Sha.sched bl 64) (k+1)=Sha.round (Sha.rounds S (Sha.sched bl 64) k) (Sha.ks.getD k 0) ((Sha.sched bl 64).getD k 0):=rfl;have hlast:k=64→Sha.compress S bl=Sha.addS S (Sha.rounds S (Sha.sched bl 64) k):=(by rintro rfl;rfl);generalize Sha.rounds S (Sha.sched bl 64) k=R at D5 hok hnext hlast;have hsl:(Sha.sched bl 64).length=64:=Sha.sched_len bl 64;have hws:(Sha.sched bl 64).getD k 0 < 4294967296:=Sha.getD_lt (Sha.sched_ok hb 64) (by omega);generalize Sha.sched bl 64=ws at D4 hnext hsl hws;obtain ⟨ra,rb,rc,rd,re,rf,rg,rh⟩:=hok;(refine q0b<|q0a<|Ls (q1w rfl rfl)<|q0c<|tn<|q0b ?_);refine q1d rfl (fun h=>?_) (fun h=>?_)
    · (refine q0o<|tn<|q0b<|q0j<|q0b<|q0a<|m_I rfl<|a_I rfl<|q0c<|tn<|q0b ?_);apply q1r 6 (by kernel_rfl);(apply DW_x (fun r w hA hH=>(q1g rfl rfl (by omega)).trans rfl);apply DW_x (fun r w hA hH=>(q3s rfl (D5.ext hA) (by show _ < 8;omega)).trans rfl);apply DW_x (fun r w hA hH=>(q1g rfl rfl (by omega)).trans rfl);apply DW_x (fun r w hA hH=>(q3s rfl (D5.ext hA) (by show _ < 8;omega)).trans rfl);apply DW_x (fun r w hA hH=>(q0e (v:=.int _ _) rfl).trans rfl);apply DW_x (fun r w hA hH=>(q0e (v:=.int _ _) rfl).trans rfl));((with_reducible exact q2e);(exact rfl);(repeat (first | exact .inr (.inr (fun _ _=>by with_reducible rfl)) | (refine And.intro ?_ ?_) | exact .inr (.inl rfl) | exact .inl (by decide +kernel) | exact trivial | exact .inr (.inr (fun _ _=>rfl))));(try dsimp only [Nat.reduceAdd]));intro r w6 E6 _;(refine q0c<|tn<|q0b<|q0a<|m_I rfl ?_);have q0:R.list.getD (0+Int.toNat 0 * 1) 0=R.a:=rfl;have q1:R.list.getD (0+Int.toNat 1 * 1) 0=R.b:=rfl;have q2:R.list.getD (0+Int.toNat 2 * 1) 0=R.c:=rfl;have q4:R.list.getD (0+Int.toNat 4 * 1) 0=R.e:=rfl;have q5:R.list.getD (0+Int.toNat 5 * 1) 0=R.f:=rfl;have q6:R.list.getD (0+Int.toNat 6 * 1) 0=R.g:=rfl;have q7:R.list.getD (0+Int.toNat 7 * 1) 0=R.h:=rfl;rw [q0,q4];refine L_fv rfl (rotl R.e 6 re (by omega) w6) ?_;intro w7 E7;(refine m_I rfl ?_);refine L_fv rfl (rotl R.e 11 re (by omega) w7) ?_;intro w8 E8;(refine Ls (q4a rfl rfl)<|m_I rfl ?_);refine L_fv rfl (rotl R.e 25 re (by omega) w8) ?_;intro w9 E9;have Ea:=E6.trans (E7.trans (E8.trans E9));(refine Ls (q4a rfl rfl)<|a_I rfl<|q0c<|tn<|q0b<|q0a<|m_I rfl<|Ls (q1g rfl rfl (by omega))<|Ls (q3s rfl (D5.ext Ea) (by show _ < 8;omega))<|Ls (q4q rfl rfl)<|m_I rfl<|Ls (q7u rfl)<|Ls (q1g rfl rfl (by omega))<|Ls (q3s rfl (D5.ext Ea) (by show _ < 8;omega))<|Ls (q4q rfl rfl)<|Ls (q4a rfl rfl)<|a_I rfl<|q0c<|tn<|q0b ?_);rw [q5,q6];(apply shrink9 0 4 5 21 6 7 8 9 10;(first | exact (rfl:_=Value.int _ _) | exact (rfl:_=Value.slice _ _ _) | exact (rfl:_=Value.bool _) | exact (rfl:_=Value.pointer _) | exact (rfl:_=Value.agg _) | exact (rfl:_=Value.string _) | exact (rfl:_=Value.tuple _) | exact (rfl:_=Value.func _ _ _) | exact (rfl:_=Value.map _));(first | exact (rfl:_=Value.int _ _) | exact (rfl:_=Value.slice _ _ _) | exact (rfl:_=Value.bool _) | exact (rfl:_=Value.pointer _) | exact (rfl:_=Value.agg _) | exact (rfl:_=Value.string _) | exact (rfl:_=Value.tuple _) | exact (rfl:_=Value.func _ _ _) | exact (rfl:_=Value.map _));(first | exact (rfl:_=Value.int _ _) | exact (rfl:_=Value.slice _ _ _) | exact (rfl:_=Value.bool _) | exact (rfl:_=Value.pointer _) | exact (rfl:_=Value.agg _) | exact (rfl:_=Value.string _) | exact (rfl:_=Value.tuple _) | exact (rfl:_=Value.func _ _ _) | exact (rfl:_=Value.map _));(first | exact (rfl:_=Value.int _ _) | exact (rfl:_=Value.slice _ _ _) | exact (rfl:_=Value.bool _) | exact (rfl:_=Value.pointer _) | exact (rfl:_=Value.agg _) | exact (rfl:_=Value.string _) | exact (rfl:_=Value.tuple _) | exact (rfl:_=Value.func _ _ _) | exact (rfl:_=Value.map _));(first | exact (rfl:_=Value.int _ _) | exact (rfl:_=Value.slice _ _ _) | exact (rfl:_=Value.bool _) | exact (rfl:_=Value.pointer _) | exact (rfl:_=Value.agg _) | exact (rfl:_=Value.string _) | exact (rfl:_=Value.tuple _) | exact (rfl:_=Value.func _ _ _) | exact (rfl:_=Value.map _));(first | exact (rfl:_=Value.int _ _) | exact (rfl:_=Value.slice _ _ _) | exact (rfl:_=Value.bool _) | exact (rfl:_=Value.pointer _) | exact (rfl:_=Value.agg _) | exact (rfl:_=Value.string _) | exact (rfl:_=Value.tuple _) | exact (rfl:_=Value.func _ _ _) | exact (rfl:_=Value.map _));(first | exact (rfl:_=Value.int _ _) | exact (rfl:_=Value.slice _ _ _) | exact (rfl:_=Value.bool _) | exact (rfl:_=Value.pointer _) | exact (rfl:_=Value.agg _) | exact (rfl:_=Value.string _) | exact (rfl:_=Value.tuple _) | exact (rfl:_=Value.func _ _ _) | exact (rfl:_=Value.map _));(first | exact (rfl:_=Value.int _ _) | exact (rfl:_=Value.slice _ _ _) | exact (rfl:_=Value.bool _) | exact (rfl:_=Value.pointer _) | exact (rfl:_=Value.agg _) | exact (rfl:_=Value.string _) | exact (rfl:_=Value.tuple _) | exact (rfl:_=Value.func _ _ _) | exact (rfl:_=Value.map _));(first | exact (rfl:_=Value.int _ _) | exact (rfl:_=Value.slice _ _ _) | exact (rfl:_=Value.bool _) | exact (rfl:_=Value.pointer _) | exact (rfl:_=Value.agg _) | exact (rfl:_=Value.string _) | exact (rfl:_=Value.tuple _) | exact (rfl:_=Value.func _ _ _) | exact (rfl:_=Value.map _));intro f);apply q1r 15 (by kernel_rfl);(apply DW_x (fun r w hA hH=>(q1g rfl rfl (by omega)).trans rfl);apply DW_x (fun r w hA hH=>(q3s rfl ((D5.ext Ea).ext hA) (by show _ < 8;omega)).trans rfl);apply DW_x (fun r w hA hH=>(q0d (v:=.int _ _) rfl).trans rfl);apply DW_x (fun r w hA hH=>(q3b rfl rfl).trans rfl);apply DW_x (fun r w hA hH=>(q0d (v:=.int _ _) rfl).trans rfl);apply DW_x (fun r w hA hH=>(q3b rfl rfl).trans rfl);apply DW_x (fun r w hA hH=>(q0d (v:=.int _ _) rfl).trans rfl);apply DW_x (fun r w hA hH=>(q1s rfl rfl (by omega)).trans rfl);apply DW_x (fun r w hA hH=>(X_ldIg rfl (((hk.ext E).ext Ea).ext hA) (by show _ < 64;omega)).trans rfl);apply DW_x (fun r w hA hH=>(q3b rfl rfl).trans rfl);apply DW_x (fun r w hA hH=>(q0d (v:=.int _ _) rfl).trans rfl);apply DW_x (fun r w hA hH=>(q1s rfl rfl (by omega)).trans rfl);apply DW_x (fun r w hA hH=>(q3s rfl ((D4.ext Ea).ext hA) (by omega)).trans rfl);apply DW_x (fun r w hA hH=>(q3b rfl rfl).trans rfl);apply DW_x (fun r w hA hH=>(q0e (v:=.int _ _) rfl).trans rfl));((with_reducible exact q2e);(exact rfl);(repeat (first | exact .inr (.inr (fun _ _=>by with_reducible rfl)) | (refine And.intro ?_ ?_) | exact .inr (.inl rfl) | exact .inl (by decide +kernel) | exact trivial | exact .inr (.inr (fun _ _=>rfl))));(try dsimp only [Nat.reduceAdd]));intro r w10 E10 _;have e1:=t1_walk R (Sha.ks.getD k 0) (ws.getD k 0) ⟨ra,rb,rc,rd,re,rf,rg,rh⟩;rw [show 0+k * 1=k from by omega,q7,inv_xor _ re,e1];refine q0c ?_;with_reducible refine tn ?_
      (apply shrink6 0 4 5 21 7 11;(first | exact (rfl:_=Value.int _ _) | exact (rfl:_=Value.slice _ _ _) | exact (rfl:_=Value.bool _) | exact (rfl:_=Value.pointer _) | exact (rfl:_=Value.agg _) | exact (rfl:_=Value.string _) | exact (rfl:_=Value.tuple _) | exact (rfl:_=Value.func _ _ _) | exact (rfl:_=Value.map _));(first | exact (rfl:_=Value.int _ _) | exact (rfl:_=Value.slice _ _ _) | exact (rfl:_=Value.bool _) | exact (rfl:_=Value.pointer _) | exact (rfl:_=Value.agg _) | exact (rfl:_=Value.string _) | exact (rfl:_=Value.tuple _) | exact (rfl:_=Value.func _ _ _) | exact (rfl:_=Value.map _));(first | exact (rfl:_=Value.int _ _) | exact (rfl:_=Value.slice _ _ _) | exact (rfl:_=Value.bool _) | exact (rfl:_=Value.pointer _) | exact (rfl:_=Value.agg _) | exact (rfl:_=Value.string _) | exact (rfl:_=Value.tuple _) | exact (rfl:_=Value.func _ _ _) | exact (rfl:_=Value.map _));(first | exact (rfl:_=Value.int _ _) | exact (rfl:_=Value.slice _ _ _) | exact (rfl:_=Value.bool _) | exact (rfl:_=Value.pointer _) | exact (rfl:_=Value.agg _) | exact (rfl:_=Value.string _) | exact (rfl:_=Value.tuple _) | exact (rfl:_=Value.func _ _ _) | exact (rfl:_=Value.map _));(first | exact (rfl:_=Value.int _ _) | exact (rfl:_=Value.slice _ _ _) | exact (rfl:_=Value.bool _) | exact (rfl:_=Value.pointer _) | exact (rfl:_=Value.agg _) | exact (rfl:_=Value.string _) | exact (rfl:_=Value.tuple _) | exact (rfl:_=Value.func _ _ _) | exact (rfl:_=Value.map _));(first | exact (rfl:_=Value.int _ _) | exact (rfl:_=Value.slice _ _ _) | exact (rfl:_=Value.bool _) | exact (rfl:_=Value.pointer _) | exact (rfl:_=Value.agg _) | exact (rfl:_=Value.string _) | exact (rfl:_=Value.tuple _) | exact (rfl:_=Value.func _ _ _) | exact (rfl:_=Value.map _));intro f);(refine q0b<|q0a<|m_I rfl ?_);refine L_fv rfl (rotl R.a 2 ra (by omega) w10) ?_;intro w11 E11;(refine m_I rfl ?_);refine L_fv rfl (rotl R.a 13 ra (by omega) w11) ?_;intro w12 E12;(refine Ls (q4a rfl rfl)<|m_I rfl ?_);refine L_fv rfl (rotl R.a 22 ra (by omega) w12) ?_;intro w13 E13;have Eb:=Ea.trans (E10.trans (E11.trans (E12.trans E13)));(refine Ls (q4a rfl rfl)<|a_I rfl<|q0c<|tn<|q0b<|q0a<|m_I rfl<|Ls (q1g rfl rfl (by omega))<|Ls (q3s rfl (D5.ext Eb) (by show _ < 8;omega))<|Ls (q4q rfl rfl)<|m_I rfl<|Ls (q1g rfl rfl (by omega))<|Ls (q3s rfl (D5.ext Eb) (by show _ < 8;omega))<|Ls (q4q rfl rfl)<|Ls (q4a rfl rfl)<|Ls (q1g rfl rfl (by omega))<|Ls (q3s rfl (D5.ext Eb) (by show _ < 8;omega))<|Ls (q1g rfl rfl (by omega))<|Ls (q3s rfl (D5.ext Eb) (by show _ < 8;omega))<|Ls (q4q rfl rfl)<|Ls (q4a rfl rfl)<|a_I rfl<|q0c<|tn<|q0b ?_);rw [q1,q2,maj_walk _ _ _ ra rb rc,z1u _ _ _ _ ra];(apply shrink7 0 4 5 21 11 12 13;(first | exact (rfl:_=Value.int _ _) | exact (rfl:_=Value.slice _ _ _) | exact (rfl:_=Value.bool _) | exact (rfl:_=Value.pointer _) | exact (rfl:_=Value.agg _) | exact (rfl:_=Value.string _) | exact (rfl:_=Value.tuple _) | exact (rfl:_=Value.func _ _ _) | exact (rfl:_=Value.map _));(first | exact (rfl:_=Value.int _ _) | exact (rfl:_=Value.slice _ _ _) | exact (rfl:_=Value.bool _) | exact (rfl:_=Value.pointer _) | exact (rfl:_=Value.agg _) | exact (rfl:_=Value.string _) | exact (rfl:_=Value.tuple _) | exact (rfl:_=Value.func _ _ _) | exact (rfl:_=Value.map _));(first | exact (rfl:_=Value.int _ _) | exact (rfl:_=Value.slice _ _ _) | exact (rfl:_=Value.bool _) | exact (rfl:_=Value.pointer _) | exact (rfl:_=Value.agg _) | exact (rfl:_=Value.string _) | exact (rfl:_=Value.tuple _) | exact (rfl:_=Value.func _ _ _) | exact (rfl:_=Value.map _));(first | exact (rfl:_=Value.int _ _) | exact (rfl:_=Value.slice _ _ _) | exact (rfl:_=Value.bool _) | exact (rfl:_=Value.pointer _) | exact (rfl:_=Value.agg _) | exact (rfl:_=Value.string _) | exact (rfl:_=Value.tuple _) | exact (rfl:_=Value.func _ _ _) | exact (rfl:_=Value.map _));(first | exact (rfl:_=Value.int _ _) | exact (rfl:_=Value.slice _ _ _) | exact (rfl:_=Value.bool _) | exact (rfl:_=Value.pointer _) | exact (rfl:_=Value.agg _) | exact (rfl:_=Value.string _) | exact (rfl:_=Value.tuple _) | exact (rfl:_=Value.func _ _ _) | exact (rfl:_=Value.map _));(first | exact (rfl:_=Value.int _ _) | exact (rfl:_=Value.slice _ _ _) | exact (rfl:_=Value.bool _) | exact (rfl:_=Value.pointer _) | exact (rfl:_=Value.agg _) | exact (rfl:_=Value.string _) | exact (rfl:_=Value.tuple _) | exact (rfl:_=Value.func _ _ _) | exact (rfl:_=Value.map _));(first | exact (rfl:_=Value.int _ _) | exact (rfl:_=Value.slice _ _ _) | exact (rfl:_=Value.bool _) | exact (rfl:_=Value.pointer _) | exact (rfl:_=Value.agg _) | exact (rfl:_=Value.string _) | exact (rfl:_=Value.tuple _) | exact (rfl:_=Value.func _ _ _) | exact (rfl:_=Value.map _));intro f);apply q1r 2 (by kernel_rfl);((with_reducible apply DW_x);(exact fun r w hA hH=>(X_arrFrom 1 rfl rfl rfl (by omega)).trans rfl));((with_reducible apply DW_x);(exact fun r w hA hH=>(X_arrTo 7 rfl rfl rfl (by omega) (by omega)).trans rfl));((with_reducible exact q2e);(exact rfl);(repeat (first | exact .inr (.inr (fun _ _=>by with_reducible rfl)) | (refine And.intro ?_ ?_) | exact .inr (.inl rfl) | exact .inl (by decide +kernel) | exact trivial | exact .inr (.inr (fun _ _=>rfl))));(try dsimp only [Nat.reduceAdd]));intro r w14 E14 _;have D6:=(D5.ext Eb).ext E14;refine L_copy (m:=7) (cs:=ints .u32 [R.a,R.b,R.c,R.d,R.e,R.f,R.g]) rfl rfl D6 rfl rfl (D6.range (fun j u hu=>?_)) (by show _≤8;omega) q0w ?_
      · have hj:j < 7:=(List.getElem?_eq_some_iff.1 hu).1;rw [show 0+j=j by omega];rw [← hu];match j,hj with
        | 0,_ | 1,_ | 2,_ | 3,_ | 4,_ | 5,_ | 6,_=>rfl
      intro w15 B15 hg15 hs15;have B15':Blk w15 g5 197 (ints .u32 [R.a,R.a,R.b,R.c,R.d,R.e,R.f,R.g]):=B15;(refine q0c<|tn<|q0b<|q0a<|Ls (q1g rfl rfl (by omega))<|Ls (q3s rfl B15' (by show _ < 8;omega))<|m_I rfl<|Ls (q3b rfl rfl)<|Ls (q1g rfl rfl (by omega)) ?_);refine q1a rfl (v:=.int _ _) rfl rfl B15' (by show _ < 8;omega) ?_;intro w16 B16 hg16 hs16;rw [show ([R.a,R.a,R.b,R.c,R.d,R.e,R.f,R.g]:List Nat).getD (0+Int.toNat 4 * 1) 0=R.d from rfl,wr2] at B16;have B16':Blk w16 g5 197 (ints .u32 [R.a,R.a,R.b,R.c,(R.d+Sha.t1 R (Sha.ks.getD k 0) (ws.getD k 0)) % 4294967296,R.e,R.f,R.g]):=B16;(refine q0c<|tn<|q0a<|m_I rfl<|m_I rfl<|Ls (q3b rfl rfl)<|m_I rfl<|Ls (q3b rfl rfl)<|Ls (q1g rfl rfl (by omega)) ?_);refine q1a rfl (v:=.int _ _) rfl rfl B16' (by show _ < 8;omega) ?_;intro w17 B17 hg17 hs17;rw [wr3b] at B17;have B17':Blk w17 g5 197 (ints .u32 (Sha.round R (Sha.ks.getD k 0) (ws.getD k 0)).list):=B17;(refine q0c<|bn<|tn<|q0a<|Ls (q1e rfl rfl (by omega))<|m_I rfl<|q0c<|tn ?_);have Ec:Ext wr w14:=Eb.trans E14;have hE:=E5.size;have Ed:Ext w w17:=((((E.trans Ec).then hg15 (fun g h=>by cases h;have:=E3.size;omega)).then hg16 (fun g h=>by cases h;have:=E3.size;omega)).then hg17 (fun g h=>by cases h;have:=E3.size;omega));refine ⟨64 - (k+1),by omega,k+1,rfl,by omega,rfl,rfl,rfl,rfl,Ed,((((D4.ext Ec).grown hg15 (by simp;omega)).grown hg16 (by simp;omega)).grown hg17 (by simp;omega)),?_⟩;rw [hnext];exact B17'
    · obtain rfl:k=64:=(by omega);have G0:=hg.ext E;(refine q1b<|te<|te<|bx<|tn<|q0b<|q0a<|Ls (q2o rfl D5 rfl)<|m_I rfl<|q0c<|tn<|q0j ?_);rw [hlast rfl];clear hlast hnext hws;refine q1k (fun q f w'=>∃ j,q=8 - j∧j≤8∧f 0=.pointer (some ⟨g,0,none⟩)∧f 98=.agg (ints .u32 R.list).toArray∧f 99=.int .i64 (j:Nat)∧w.grownBy w' (some g) ∧
        Blk w' g 197 (ints .u32 ((Sha.addS S R).list.take j++S.list.drop j))) 8 ?_ ?_
      · exact ⟨0,rfl,by omega,rfl,rfl,rfl,E.row _,G0⟩
      · clear G0 D5 D4 E h0 h4 h5 h21;rintro q f wy ⟨j,rfl,hj,h0,h98,h99,hgy,G⟩;rw [fold h0,fold h98,fold h99];have hll:((Sha.addS S R).list.take j++S.list.drop j).length=8:=(by simp [Sha.list_len];omega);(refine q0b<|q0a<|Ls (q1w rfl rfl)<|q0c<|tn<|q0b ?_);refine q1d rfl (fun h=>?_) (fun h=>?_)
        · (refine q0o<|tn<|q0b<|q0j<|q0b<|q0a<|m_I rfl ?_);refine Ls (X_indexVI (i:=j) (len:=8) rfl rfl (by omega) rfl) ?_;(refine a_I rfl<|a_I rfl<|q0c<|tn ?_);apply q1r 9 (by kernel_rfl);(apply DW_x (fun r w hA hH=>(q0d (v:=.pointer _) rfl).trans rfl);apply DW_x (fun r w hA hH=>(q0d (v:=.int _ _) rfl).trans rfl);apply DW_x (fun r w hA hH=>(q1l rfl).trans rfl);apply DW_x (fun r w hA hH=>(q1s rfl rfl (by omega)).trans rfl);apply DW_x (fun r w hA hH=>(q3s rfl (G.ext hA) (by rw [hll];omega)).trans rfl);apply DW_x (fun r w hA hH=>(q0d (v:=.int _ _) rfl).trans rfl);apply DW_x (fun r w hA hH=>(q3b rfl rfl).trans rfl);apply DW_x (fun r w hA hH=>(q1l rfl).trans rfl);apply DW_x (fun r w hA hH=>(q1s rfl rfl (by omega)).trans rfl));((with_reducible exact q2e);(exact rfl);(repeat (first | exact .inr (.inr (fun _ _=>by with_reducible rfl)) | (refine And.intro ?_ ?_) | exact .inr (.inl rfl) | exact .inl (by decide +kernel) | exact trivial | exact .inr (.inr (fun _ _=>rfl))));(try dsimp only [Nat.reduceAdd]));intro r w6 E6 _;refine q1a rfl (v:=.int _ _) rfl rfl (G.ext E6) (by rw [q0t,hll];omega) ?_;intro w7 B7 hg7 hs7;(refine q0c<|bn<|tn<|q0a<|Ls (q1e rfl rfl (by omega))<|m_I rfl<|q0c<|tn ?_);rw [show 0+j * 1=j by omega,mix_get _ _ _ (by rw [Sha.list_len,Sha.list_len]) (by rw [Sha.list_len];omega),wr2,← addS_get S R j (by omega),q7h,mix_set _ _ _ (by rw [Sha.list_len,Sha.list_len]) (by rw [Sha.list_len];omega)] at B7;exact ⟨8 - (j+1),by omega,j+1,rfl,by omega,rfl,rfl,rfl,q0f (q0f hgy E6 (fun _ h=>by cases h)) hg7 (fun g' h=>by cases h;exact .inl rfl),B7⟩
        · obtain rfl:j=8:=(by omega);(refine q1b<|te<|te<|bx ?_);refine q1z rfl rfl ?_;have e:(Sha.addS S R).list.take 8++S.list.drop 8=(Sha.addS S R).list:=rfl;rw [e] at G;exact ⟨rfl,G,hgy⟩
set_option maxHeartbeats 1000000 in
theorem cloneB (lo hi:Nat) (v:Value) (a:List Nat) (hl:a.length≤1000000000) (w:World) (hr:Row w lo hi 1 v a.length (ints .u8 a)) :
    Calls Tryz.prog 121 #[v] w fun e w'=>∃ q,e=.returned q∧Ext w w'∧w'.ownsRow w.heap.size 5 1 q a.length (ints .u8 a):=by
  refine q0l Tryz.func121 rfl Tryz.ntmps121 rfl ?_;have hr':=hr;obtain ⟨hl0,A,c,rfl,hc,hcm,hn⟩:=hr';(refine q0b<|q0a<|a_S rfl<|q0c<|tn<|q0b<|q0b<|q0a<|m_S rfl ?_);refine Ls (X_eqlNil rfl rfl) ?_;(refine q0c<|tn ?_);refine z0h rfl (fun h=>?_) (fun h=>?_)
  · have hA:A=none:=(by simpa using h);subst hA;have h0:a=[]:=by
      rcases Nat.eq_zero_or_pos a.length with h0 | h0
      · exact List.eq_nil_of_length_eq_zero h0
      · obtain ⟨b,o,hb,_⟩:=hn h0;cases hb
    subst h0;(refine q0b<|q0a<|a_S rfl<|q0c<|tn<|q0r<|tr ?_);refine q0i rfl rfl (v:=.slice _ _ _) rfl ?_;exact ⟨_,rfl,Ext.refl w,⟨rfl,.inl ⟨rfl,rfl⟩⟩⟩
  · (refine q0o<|tn<|q0b<|q0a ?_);refine q5e ?_;intro q1 w1 E1 hs1 o1;(refine m_S rfl ?_);refine q1c (v:=q1) (u:=.slice _ _ _) rfl rfl o1 (hr.ext E1) q0w (by omega) (by omega) (by omega) ?_;intro q2 w2 o2 hg2 _;(refine Ls (q0e (v:=q2) rfl)<|q0c<|tn<|q0r ?_);refine q0i rfl rfl (v:=q2) rfl ?_;refine ⟨q2,rfl,E1.then hg2 (fun g h=>(o1.lt g h).1),?_⟩;rw [Nat.zero_add,List.nil_append] at o2;exact o2
def blk (a:List Nat) (i:Nat):List Nat:=((Sha.pad a).drop (64 * i)).take 64
def PreB (a:List Nat) (i:Nat) (u:Value) (w:World):Prop:=i < (Sha.pad a).length / 64∧∃ lo hi,Row w lo hi 1 u 64 (ints .u8 (blk a i))
def q7y (a:List Nat):List Nat:=(Sha.pad a).drop (a.length / 64 * 64)
theorem blk_head (a:List Nat) (i:Nat) (h:64 * i+64≤a.length):blk a i=(a.drop (64 * i)).take 64:=by
  unfold blk Sha.pad;rw [List.append_assoc,List.append_assoc,List.drop_append_of_le_length (by omega),List.take_append_of_le_length (by simp;omega)]
theorem tail_len (a:List Nat):(q7y a).length=(Sha.pad a).length - a.length / 64 * 64:=by simp [q7y]
theorem blk_tail (a:List Nat) (j:Nat):((q7y a).drop (64 * j)).take 64=blk a (a.length / 64+j):=by
  unfold q7y blk;rw [List.drop_drop,show a.length / 64 * 64+64 * j=64 * (a.length / 64+j) by omega]
theorem tail_eq (a:List Nat):q7y a=a.drop (a.length / 64 * 64)++[128]++List.replicate (Sha.zeros a.length) 0++Sha.lenBytes a.length:=by
  unfold q7y Sha.pad;rw [List.append_assoc,List.append_assoc,List.drop_append_of_le_length (by omega),← List.append_assoc,← List.append_assoc]
theorem tail_eq' (a:List Nat):q7y a=a.drop (64 * (a.length / 64))++[128]++List.replicate (Sha.zeros a.length) 0++Sha.lenBytes a.length:=by
  rw [tail_eq,Nat.mul_comm]
set_option maxHeartbeats 4000000 in
theorem gblocks (g g1 lo hi:Nat) (v:Value) (a:List Nat) (hl:a.length≤1000000000) (w:World) (hr:Row w lo hi 1 v a.length (ints .u8 a)) (hg:¬ (lo≤g∧g < hi)) (hB:Blk w g1 44 [v]) (hg1:g1 ≠ g) (hgw:g < w.heap.size) :
    Iter Tryz.prog 175 #[.pointer (some ⟨g1,0,none⟩)] w (PreB a) (KeepBut g) Ext Ext (fun i _=>i=(Sha.pad a).length / 64):=by
  intro l J Jx w1 E1 hJ hJx hY h0;have hp:(Sha.pad a).length % 64=0:=by rw [Sha.pad_len];have:=Sha.pad_mod a.length;omega
  have hzl:=q8m a.length;have hp0:(Sha.pad a).length≤1000000100:=by rw [Sha.pad_len];have:=q8m a.length;omega
  refine q0l Tryz.func175 rfl Tryz.ntmps175 rfl ?_;have hr1:=hr.ext E1;have hB1:=hB.ext E1;obtain ⟨_,A0,c0,rfl,hc0,_,_⟩:=id hr;(refine q0b<|q0a<|Ls (X_ld rfl hB1 rfl)<|Ls (q0h rfl)<|Ls (q5d rfl rfl (by omega))<|Ls (q3q rfl rfl (by omega))<|a_I rfl<|q0c<|tn<|q0b<|q0b<|q0a<|a_I rfl<|q0c<|tn<|q0j ?_);have e3:((a.length:Nat):Int) / 64 * 64=((64 * (a.length / 64):Nat):Int):=by omega
  rw [e3];have hN:a.length / 64 < (Sha.pad a).length / 64:=by rw [Sha.pad_len];have:=Sha.pad_mod a.length;omega
  refine q1k (fun q f w'=>∃ k,q=a.length / 64 - k∧k≤a.length / 64∧f 0=q9a l∧f 1=.pointer (some ⟨g1,0,none⟩)∧f 3=.int .i64 ((64 * (a.length / 64):Nat):Int)∧f 4=.int .i64 ((64 * k:Nat):Int) ∧
    J k w'∧Blk w' g1 44 [.slice A0 a.length c0]∧Row w' lo hi 1 (.slice A0 a.length c0) a.length (ints .u8 a)∧w.heap.size≤w'.heap.size) (a.length / 64) ?_ ?_
  · exact ⟨0,rfl,by omega,rfl,rfl,rfl,rfl,h0,hB1,hr1,E1.size⟩
  · clear hB1 hr1 h0 hr hB;rintro q f wr ⟨k,rfl,hk,h0,h1,h3,h4,hj,hB,hr,hsz⟩;rw [fold h0,fold h1,fold h3,fold h4];(refine q0b<|q0b<|q0a<|m_I rfl<|m_I rfl<|Ls (q1w rfl rfl)<|q0c<|tn ?_);refine q1d rfl (fun h=>?_) (fun h=>?_)
    · have hcut:=hr.cut (i:=64 * k) (j:=64 * k+64) (q:=64) (by omega) (by omega) (by omega);rw [← blk_head a k (by omega)] at hcut;(refine q0o<|tn<|q0b<|q0j<|q0b<|q0a<|Ls (q0d (v:=.func _ _ _) rfl)<|Ls (X_ld rfl hB rfl)<|m_I rfl<|m_I rfl<|Ls (q1e rfl rfl (by omega)) ?_);refine Ls (z0e (64 * k) (64 * k+64) rfl rfl rfl rfl rfl (by omega) (by omega)) ?_;refine L_yield rfl rfl rfl (hY k _ wr hj ⟨by omega,lo,hi,hcut⟩) ?_;rintro e w2 (⟨rfl,hj2,hk2⟩ | ⟨rfl,hjx⟩)
      · refine ⟨.bool true,rfl,?_⟩;(refine Ls (q2d rfl)<|q0c<|tn<|q0q rfl<|q0o<|bn<|tn<|q0a<|m_I rfl<|Ls (q1e rfl rfl (by omega))<|a_I rfl<|q0c<|tn ?_);exact ⟨a.length / 64 - (k+1),by omega,k+1,rfl,by omega,rfl,rfl,rfl,congrArg (Value.int .i64) (show ((64 * k:Nat):Int)+64=((64 * (k+1):Nat):Int) by omega),hj2,hk2.blk hB hg1,hk2.row hr hg,Nat.le_trans hsz hk2.size⟩
      · refine ⟨.bool false,rfl,?_⟩;(refine Ls (q2d rfl)<|q0c<|tn<|q0v rfl<|q0r<|br<|tr<|tr<|br<|tr ?_);refine z2b rfl rfl ?_;exact ⟨⟨_,rfl⟩,.inr hjx⟩
    · obtain rfl:k=a.length / 64:=(by omega);have hcut:=hr.cut (i:=64 * (a.length / 64)) (j:=a.length) (q:=a.length - 64 * (a.length / 64)) (by omega) (by omega) rfl;rw [List.take_of_length_le (by simp)] at hcut;(refine q1b<|te<|te<|bx<|tn<|q0b<|q0a<|Ls (X_ld rfl hB rfl)<|m_I rfl ?_);refine Ls (X_sliceA (64 * (a.length / 64)) rfl rfl rfl (by omega) (by omega)) ?_;have hdl:(a.drop (64 * (a.length / 64))).length=a.length - 64 * (a.length / 64):=(by simp);refine L_fo rfl (cloneB lo hi _ (a.drop (64 * (a.length / 64))) (by omega) wr (hcut.re hdl.symm rfl)) ?_;rintro q1 w2 ⟨E2,o2⟩;refine q3z (v:=.int _ _) rfl rfl ?_;intro u w3 hru E3 _ _;refine q1c (v:=q1) (u:=u) rfl rfl (q1p o2 E3) hru (by simp [Value.oneCell']) (by omega) (by omega) (by have:=E2.size;have:=E3.size;omega) ?_;intro q2 w4 o4 hg4 _;have E4:Ext wr w4:=(E2.trans E3).then hg4 (fun g h=>(o2.lt g h).1);have hj4:=hJ _ _ _ hj E4;(refine Ls (q0e (v:=q2) rfl)<|q0c<|tn<|q0b<|q0j ?_);rw [hdl] at o4;refine q1k (fun q f w'=>∃ z v',q=Sha.zeros a.length - z∧z≤Sha.zeros a.length∧f 0=q9a l∧f 1=.pointer (some ⟨g1,0,none⟩)∧f 5=v'∧Ext wr w' ∧
        w'.ownsRow wr.heap.size 5 1 v' (a.length - 64 * (a.length / 64)+1+z) (ints .u8 (a.drop (64 * (a.length / 64))++[128]++List.replicate z 0))) (Sha.zeros a.length) ?_ ?_
      · refine ⟨0,q2,rfl,by omega,rfl,rfl,rfl,E4,?_⟩;rw [List.replicate_zero,List.append_nil,q2i];exact o4
      · clear h0 h1 h3 h4 hcut o2 o4 hru;rintro q f w5 ⟨z,v',rfl,hz,h0,h1,h5,E5,o5⟩;rw [fold h0,fold h1,fold h5];(refine q0b<|q0b<|q0a<|Ls (q0d (v:=v') rfl)<|Ls (q3f (v:=v') rfl (Row.of_own o5))<|Ls (q4o rfl rfl (by omega))<|Ls (q6i rfl rfl)<|q0c<|tn ?_);refine q1d rfl (fun hc=>?_) (fun hc=>?_)
        · have hz':z < Sha.zeros a.length:=by
            have:=Sha.pad_mod a.length;have:=q8m a.length;refine Nat.lt_of_le_of_ne hz fun e=>hc ?_;subst e;omega
          (refine q0o<|tn<|q0j<|q0a<|Ls (q0d (v:=v') rfl) ?_);refine q3z (v:=.int _ _) rfl rfl ?_;intro u w6 hru E6 _ _;refine q1c (v:=v') (u:=u) rfl rfl (q1p o5 E6) hru (by simp [Value.oneCell']) (by omega) (by omega) (by have:=E5.size;have:=E6.size;omega) ?_;intro q3 w7 o7 hg7 _;(refine Ls (q0e (v:=q3) rfl)<|q0c<|bn<|tn ?_);refine ⟨Sha.zeros a.length - (z+1),by omega,z+1,q3,rfl,by omega,rfl,rfl,rfl,(E5.trans E6).then hg7 (fun g h=>(o5.lt g h).1),?_⟩;rw [List.replicate_succ',← List.append_assoc,q2i _ (a.drop (64 * (a.length / 64))++[128]++List.replicate z 0)];exact o7
        · have hz':z=Sha.zeros a.length:=by
            have:=Sha.pad_mod a.length;have:=q8m a.length;have:((a.length - 64 * (a.length / 64)+1+z:Nat):Int) % 64=56:=by
              rcases Classical.em (((a.length - 64 * (a.length / 64)+1+z:Nat):Int) % 64=56) with h | h
              · exact h
              · exact absurd h hc
            omega
          subst hz';have hB5:=hB.ext E5;(refine q1b<|te<|te<|bx<|tn<|q0b<|q0a<|Ls (X_ld rfl hB5 rfl)<|Ls (q0h rfl)<|Ls (q1q rfl)<|Ls (q5g rfl rfl)<|a_I rfl<|q0c<|tn<|q0b<|q0b<|q0a<|a_I rfl<|q0c<|tn<|q0j ?_);refine q1k (fun q f w'=>∃ i v',q=8 - i∧i≤8∧f 0=q9a l∧f 5=v'∧f 6=.int .u64 (IntKind.u64.wrap (IntKind.u64.wrap (a.length:Nat) * 8))∧f 7=.int .i64 (56 - 8 * (i:Int))∧Ext wr w' ∧
            w'.ownsRow wr.heap.size 5 1 v' (a.length - 64 * (a.length / 64)+1+Sha.zeros a.length+i) (ints .u8 (a.drop (64 * (a.length / 64))++[128]++List.replicate (Sha.zeros a.length) 0++(Sha.lenBytes a.length).take i))) 8 ?_ ?_
          · refine ⟨0,v',rfl,by omega,rfl,rfl,rfl,rfl,E5,?_⟩;rw [List.take_zero,List.append_nil];exact o5
          · clear h0 h1 h5 o5 hc hB5;rintro q f w6 ⟨i,v',rfl,hi,h0,h5,h6,h7,E6,o6⟩;rw [fold h0,fold h5,fold h6,fold h7];(refine q0b<|q0b<|q0a<|m_I rfl<|Ls (q6j rfl rfl)<|q0c<|tn ?_);refine q1d rfl (fun hc=>?_) (fun hc=>?_)
            · have hi8:i < 8:=(by omega);(refine q0o<|tn<|q0b<|q0j<|q0a<|Ls (q0d (v:=v') rfl)<|m_I rfl<|m_I rfl<|Ls (q4g rfl rfl (by omega))<|Ls (q1q rfl) ?_);refine q3z (v:=.int _ _) rfl rfl ?_;intro u w7 hru E7 _ _;rw [len_walk _ _ (by omega) hi8] at hru;refine q1c (v:=v') (u:=u) rfl rfl (q1p o6 E7) hru (by simp [Value.oneCell']) (by omega) (by omega) (by have:=E6.size;have:=E7.size;omega) ?_;intro q3 w8 o8 hg8 _;(refine Ls (q0e (v:=q3) rfl)<|q0c<|bn<|tn<|q0a<|m_I rfl<|Ls (q2q rfl rfl (by omega))<|a_I rfl<|q0c<|tn ?_);refine ⟨8 - (i+1),by omega,i+1,q3,rfl,by omega,rfl,rfl,rfl,congrArg (Value.int .i64) (show 56 - 8 * (i:Int) - 8=56 - 8 * ((i+1:Nat):Int) by omega),(E6.trans E7).then hg8 (fun g h=>(o6.lt g h).1),?_⟩;rw [q9r _ _ hi8,← List.append_assoc,q2i _ (a.drop (64 * (a.length / 64))++[128]++List.replicate (Sha.zeros a.length) 0++(Sha.lenBytes a.length).take i)];exact o8
            · obtain rfl:i=8:=(by omega);rw [List.take_of_length_le (by simp [Sha.lenBytes]),← tail_eq' a] at o6;have htl:(q7y a).length=a.length - 64 * (a.length / 64)+1+Sha.zeros a.length+8:=(by rw [tail_len,Sha.pad_len];omega);have htN:(q7y a).length=64 * ((Sha.pad a).length / 64 - a.length / 64):=(by rw [tail_len];omega);rw [← htl] at o6;have hj6:=hJ _ _ _ hj E6;(refine q1b<|te<|te<|bx<|tn<|q0b<|q0a<|a_I rfl<|q0c<|tn<|q0j ?_);refine q1k (fun q f w'=>∃ j,q=((Sha.pad a).length / 64 - a.length / 64) - j∧j≤(Sha.pad a).length / 64 - a.length / 64∧f 0=q9a l∧f 5=v'∧f 8=.int .i64 ((64 * j:Nat):Int)∧J (a.length / 64+j) w' ∧
                w'.ownsRow wr.heap.size 5 1 v' (q7y a).length (ints .u8 (q7y a))) ((Sha.pad a).length / 64 - a.length / 64) ?_ ?_
              · exact ⟨0,rfl,by omega,rfl,rfl,rfl,hj6,o6⟩
              · clear h0 h5 h6 h7 o6 hc hj6 E6;rintro q f w7 ⟨j,rfl,hjn,h0,h5,h8,hj7,o7⟩;rw [fold h0,fold h5,fold h8];have hrow:=Row.of_own o7;(refine q0b<|q0b<|q0a<|m_I rfl<|Ls (q0d (v:=v') rfl)<|Ls (q3f (v:=v') rfl hrow)<|Ls (q1w rfl rfl)<|q0c<|tn ?_);refine q1d rfl (fun hc=>?_) (fun hc=>?_)
                · obtain ⟨_,A1,c1,rfl,hc1,_,_⟩:=id hrow;have hcut:=hrow.cut (i:=64 * j) (j:=64 * j+64) (q:=64) (by omega) (by omega) (by omega);rw [blk_tail] at hcut;(refine q0o<|tn<|q0b<|q0j<|q0b<|q0a<|Ls (q0d (v:=.func _ _ _) rfl)<|m_S rfl<|m_I rfl<|m_I rfl<|Ls (q1e rfl rfl (by omega)) ?_);refine Ls (z0e (64 * j) (64 * j+64) rfl rfl rfl rfl rfl (by omega) (by omega)) ?_;have hlt:a.length / 64+j < (Sha.pad a).length / 64:=(by omega);refine L_yield rfl rfl rfl (hY _ _ w7 hj7 ⟨hlt,_,_,hcut⟩) ?_;rintro e w8 (⟨rfl,hj8,hk8⟩ | ⟨rfl,hjx⟩)
                  · refine ⟨.bool true,rfl,?_⟩;(refine Ls (q2d rfl)<|q0c<|tn<|q0q rfl<|q0o<|bn<|tn<|q0a<|m_I rfl<|Ls (q1e rfl rfl (by omega))<|a_I rfl<|q0c<|tn ?_);exact ⟨((Sha.pad a).length / 64 - a.length / 64) - (j+1),by omega,j+1,rfl,by omega,rfl,rfl,congrArg (Value.int .i64) (show ((64 * j:Nat):Int)+64=((64 * (j+1):Nat):Int) by omega),hj8,hk8.own o7 (by omega)⟩
                  · refine ⟨.bool false,rfl,?_⟩;(refine Ls (q2d rfl)<|q0c<|tn<|q0v rfl<|q0r<|br<|tr<|tr<|br ?_);refine z2b rfl rfl ?_;exact ⟨⟨_,rfl⟩,.inr hjx⟩
                · obtain rfl:j=(Sha.pad a).length / 64 - a.length / 64:=(by omega);(refine q1b<|te<|te<|bx ?_);refine q1z rfl rfl ?_;exact ⟨⟨_,rfl⟩,.inl ⟨_,by omega,hj7⟩⟩
end Go.Proofs.YtbolofkandcnlaaGreatDoor
namespace Go.Proofs.YtbolofkandcnlaaGreatDoor
open Go.RowKit Go.Proofs.K Go.Shelf
theorem dig2_walk (x j:Nat) (hj:j < 4):IntKind.u8.wrap ((x:Int).fdiv (2 ^ min (24 - 8 * (j:Int)).toNat IntKind.u32.bits))=((x / 2 ^ (24 - 8 * j) % 256:Nat):Int):=by
  have e:min (24 - 8 * (j:Int)).toNat IntKind.u32.bits=24 - 8 * j:=by
    have:IntKind.u32.bits=32:=rfl;omega
  rw [e,q9w,z1b]
theorem gblocksMk (v:Value) (w:World) (h1:v.oneCell'=true):Calls Tryz.prog 119 #[v] w fun e w'=>∃ q,e=.returned q∧∃ g1,q=.func (.func 175) #[] #[.pointer (some ⟨g1,0,none⟩)]∧Ext w w'∧Blk w' g1 44 [v]∧w.heap.size≤g1:=by
  refine q0l Tryz.func119 rfl Tryz.ntmps119 rfl ?_;(refine q0b<|q0a ?_);refine L_box1 rfl h1 ?_;intro g1 w1 B1 hg1 E1 hs1;(refine Ls (q0e (v:=Value.nilFunc) rfl)<|q0c<|tn<|q0b<|q0a ?_);refine Ls (q1u (fi:=[]) (ca:=[.tmp 1]) rfl rfl) ?_;(refine Ls (q0e (v:=.func _ _ _) rfl)<|q0c<|tn<|q0r ?_);refine q0i rfl rfl (v:=.func _ _ _) rfl ?_;exact ⟨_,rfl,g1,rfl,E1,B1,by omega⟩
set_option maxHeartbeats 4000000 in
theorem gshas (lo hi:Nat) (v:Value) (a:List Nat) (ha8:Sha.bytesOk a) (hl:a.length≤1000000000) (w:World) (hr:Row w lo hi 1 v a.length (ints .u8 a))
    (hk:Rng w 1 (ints .u32 Sha.ks)) (hi0:Rng w 0 (ints .u32 Sha.iv.list)) :
    Calls Tryz.prog 89 #[v] w fun e w'=>e=.returned (.agg (ints .u8 (Sha.sum a)).toArray)∧Ext w w':=by
  have hp:(Sha.pad a).length % 64=0:=by rw [Sha.pad_len];have:=Sha.pad_mod a.length;omega
  have hp8:Sha.bytesOk (Sha.pad a):=by
    intro x hx;simp only [Sha.pad,List.mem_append,List.mem_singleton] at hx;rcases hx with ((hx | rfl) | hx) | hx
    · exact ha8 x hx
    · omega
    · rw [List.eq_of_mem_replicate hx];omega
    · obtain ⟨i,_,rfl⟩:=List.mem_map.1 hx;exact Nat.mod_lt _ (by omega)
  refine calls_T Tryz.func89 rfl Tryz.ntmps89 rfl ?_;refine T_seq ?_;(refine q0a ?_);refine q0z ?_;intro g2 w1 B2 hg2 E1 hs1;(refine q0c<|tn ?_);refine T_seq ?_;(refine q0a<|Ls (X_ldWg rfl (hi0.ext E1) rfl) ?_);refine q0z ?_;intro g3 w2 B3 hg3 E2 hs2;refine q0m (l:=ints .u32 Sha.iv.list) rfl rfl rfl q0w B3 rfl ?_;intro w3 B3' hg3' hs3;(refine q0c<|tn ?_);refine T_seq2 ?_;(refine q0a<|Ls (q0d (v:=v) rfl) ?_);refine L_fo rfl (gblocksMk v w3 (by obtain ⟨_,_,_,rfl,_⟩:=hr;rfl)) ?_;rintro q w4 ⟨g1,rfl,E4,hB1,hg1⟩;(refine q0c<|tn ?_);have hz1:=E1.size;have hz2:=E2.size;have hz4:=E4.size;have Ea:Ext w w4:=((E1.trans E2).then hg3' (fun g h=>by cases h;omega)).trans E4;have G3:=B3'.ext E4;have G2:=((B2.ext E2).grown hg3' (by simp;omega)).ext E4;have hr4:=(hr.tight).ext Ea;have hlt4:g3 < w4.heap.size:=G3.lt;have hlt1:g1 < w4.heap.size:=hB1.lt;have hkg:1 < w.heap.size:=hk.lt (by decide);refine T_range (Kp:=KeepBut g3) (It:=Ext) (Ix:=Ext) rfl (enters_of Tryz.func175 (by kernel_rfl) rfl) (gblocks g3 g1 lo w.heap.size v a hl w4 hr4 (by omega) hB1 (by omega) hlt4) (fun _ _ _ h k=>h.trans k) (fun _ _ _ o' _ h hc=>KeepBut.put o' h hc)
    (fun _ _ E=>⟨E.size,fun k o _ hk _=>(E.block k (Array.getElem?_eq_some_iff.1 hk).1 (by simp)).trans hk⟩)
    (fun _ _ E=>⟨E.size,fun k o _ hk _=>(E.block k (Array.getElem?_eq_some_iff.1 hk).1 (by simp)).trans hk⟩)
    (fun i b=>Blk b g3 197 (ints .u32 (Sha.blocks (Sha.pad a) i).list)∧w4.grownBy b (some g3)) (fun _=>False)
    (fun i x y h E=>⟨h.1.ext E,q0f h.2 E (fun _ h=>by cases h)⟩) (fun i x y h hb=>⟨(hb.keep (g:=g3+1)).blk h.1 (by omega),?_⟩) (fun _ _ h _=>h) (fun _ _ h _=>h)
    (fun i u x y h hb=>⟨h.1,?_⟩) (fun _ _ _ h _=>h) ⟨G3,⟨rfl,rfl,rfl,Nat.le_refl _,fun _ _ _=>rfl⟩⟩ (fun F u=>upd (upd F 12 u) 4 u) (fun l u x=>?_) (fun l i u x hx hu=>?_) (fun D b hD hdn hbD=>?_)
  · obtain ⟨row,hg,hrw⟩:=hb;exact q0f h.2 hg (fun r e=>.inr (hrw r e).1)
  · obtain ⟨_,l1,l2,hrow⟩:=h;exact ⟨l1,l2,(hb.keep (g:=l2)).row hrow (by omega)⟩
  · (refine q0a<|Ls (q0e (v:=u) rfl)<|q0c ?_);exact ⟨rfl,rfl,rfl⟩
  · obtain ⟨hxB,hxg⟩:=hx;obtain ⟨hiN,l1,l2,hrow⟩:=hu;have hbl:(blk a i).length=64:=(by unfold blk;simp;omega);(refine q0j<|q0a<|Ls (q0d (v:=u) rfl) ?_);refine L_fn (gcompress g3 l1 l2 u (Sha.blocks (Sha.pad a) i) (Sha.blocks_ok _ _) (blk a i) hbl (fun x hx=>hp8 x (List.mem_of_mem_drop (List.mem_of_mem_take hx))) x hrow hxB ((hk.ext Ea).grown hxg (by simp;omega))) rfl ?_;rintro e y ⟨rfl,hyB,hyg⟩;refine ⟨_,rfl,?_⟩;(refine q0c<|bn ?_);exact ⟨KeepsFrom.of_grownBy hyg (fun j h=>by cases h;omega),KeepBut.of hyg (fun r e=>by cases e;exact .inl rfl),hyB,q0f hxg hyg (fun r e=>by cases e;exact .inl rfl)⟩
  · obtain ⟨i,rfl,hbB,hbg⟩:∃ i,i=(Sha.pad a).length / 64∧Blk b g3 197 (ints .u32 (Sha.blocks (Sha.pad a) i).list)∧w4.grownBy b (some g3):=hdn.elim id False.elim;have hDb:D < b.heap.size:=(Array.getElem?_eq_some_iff.1 hbD).1;refine T_of_W ?_;(refine q0b<|q0a ?_);obtain ⟨S,hS⟩:∃ S,S=Sha.blocks (Sha.pad a) ((Sha.pad a).length / 64):=⟨_,rfl⟩;have hfin:Sha.sum a=Sha.digest S:=(by rw [hS];rfl);rw [← hS] at hbB;rw [hfin];clear hS hfin;refine q0z ?_;intro g5 b1 B5 hg5 F1 hs5;rw [show (0:Int)=((0:Nat):Int) from rfl,q7i] at B5;have E5:w4.grownBy b1 (some g3):=q0f hbg F1 (fun _ h=>by cases h);have C2:=(G2.grown hbg (by simp;omega)).ext F1;have hbz:=hbg.size;(refine q0c<|tn<|q0b<|q0b<|q0a<|Ls (q2o rfl (hbB.ext F1) rfl)<|m_I rfl<|q0c<|tn<|q0j ?_);have hdl:=Sha.digest_len S;refine q1k (fun q f w'=>∃ i,q=8 - i∧i≤8∧f 2=.pointer (some ⟨g2,0,none⟩)∧f 5=.pointer (some ⟨g5,0,none⟩)∧f 15=.agg (ints .u32 S.list).toArray∧f 16=.int .i64 (i:Nat)∧Ext b w' ∧
      Blk w' g2 23 (List.replicate 32 [Value.int IntKind.u8 0]).flatten∧Blk w' g5 23 (ints .u8 ((Sha.digest S).take (4 * i)++List.replicate (32 - 4 * i) 0))) 8 ?_ ?_
    · exact ⟨0,rfl,by omega,rfl,rfl,rfl,rfl,F1,C2,B5⟩
    · clear C2 B5;rintro q f wr ⟨i,rfl,hi,h2,h5,h15,h16,E,D2,D5⟩;rw [fold h2,fold h5,fold h15,fold h16];(refine q0b<|q0a<|Ls (q1w rfl rfl)<|q0c<|tn<|q0b ?_);refine q1d rfl (fun h=>?_) (fun h=>?_)
      · (refine q0o<|tn<|q0b<|q0j<|q0b<|q0a<|m_I rfl ?_);refine Ls (X_indexVI (i:=i) (len:=8) rfl rfl (by omega) rfl) ?_;(refine a_I rfl<|a_I rfl<|q0c<|tn<|q0b<|q0a<|m_I rfl<|q0c<|tn<|q0j ?_);refine q1k (fun q f w'=>∃ j,q=4 - j∧j≤4∧f 2=.pointer (some ⟨g2,0,none⟩)∧f 5=.pointer (some ⟨g5,0,none⟩)∧f 15=.agg (ints .u32 S.list).toArray∧f 16=.int .i64 (i:Nat)∧f 6=.int .i64 (i:Nat)∧f 7=.int .u32 ((S.list.getD i 0:Nat):Int)∧f 20=.int .i64 (j:Nat)∧Ext b w' ∧
          Blk w' g2 23 (List.replicate 32 [Value.int IntKind.u8 0]).flatten∧Blk w' g5 23 (ints .u8 ((Sha.digest S).take (4 * i+j)++List.replicate (32 - (4 * i+j)) 0))) 4 ?_ ?_
        · exact ⟨0,rfl,by omega,rfl,rfl,rfl,rfl,rfl,rfl,rfl,E,D2,D5⟩
        · clear D2 D5 E h2 h5 h15 h16;rintro q f wx ⟨j,rfl,hj,h2,h5,h15,h16,h6,h7,h20,E,D2,D5⟩;rw [fold h2,fold h5,fold h15,fold h16,fold h6,fold h7,fold h20];have htl:((Sha.digest S).take (4 * i+j)).length=4 * i+j:=(by rw [List.length_take,hdl];omega);(refine q0b<|q0a<|Ls (q1w rfl rfl)<|q0c<|tn<|q0b ?_);refine q1d rfl (fun h=>?_) (fun h=>?_)
          · (refine q0o<|tn<|q0b<|q0j<|q0b<|q0a<|m_I rfl<|a_I rfl<|q0c<|tn<|q0a<|m_I rfl<|Ls (q3q rfl rfl (by omega))<|m_I rfl<|Ls (q1e rfl rfl (by omega))<|m_I rfl<|m_I rfl<|Ls (q3q rfl rfl (by omega))<|Ls (q2q rfl rfl (by omega))<|Ls (q4g rfl rfl (by omega))<|Ls (q1q rfl)<|Ls (q1g rfl rfl (by omega)) ?_);refine q1a rfl (v:=.int _ _) rfl rfl D5 (by rw [q0t,List.length_append,htl,List.length_replicate];omega) ?_;intro w5 B5 hg5' _;(refine q0c<|bn<|tn<|q0a<|Ls (q1e rfl rfl (by omega))<|m_I rfl<|q0c<|tn ?_);have hkl:4 * i+j < (Sha.digest S).length:=(by omega);rw [show (0+(4 * (i:Int)+(j:Int)).toNat * 1)=4 * i+j by omega,dig2_walk _ j (by omega),q7h,show 32 - (4 * i+j)=(32 - (4 * i+(j+1)))+1 by omega,z3l _ _ _ _ htl.symm] at B5;refine ⟨4 - (j+1),by omega,j+1,rfl,by omega,rfl,rfl,rfl,rfl,rfl,rfl,rfl,E.then hg5' (fun g h=>by cases h;omega),D2.grown hg5' (by simp;omega),?_⟩;have e:(Sha.digest S).take (4 * i+(j+1))=(Sha.digest S).take (4 * i+j)++[S.list.getD i 0 / 2 ^ (24 - 8 * j) % 256]:=by
              rw [show 4 * i+(j+1)=(4 * i+j)+1 by omega,List.take_succ_eq_append_getElem hkl];simp only [Sha.digest,List.getElem_map,List.getElem_range];rw [show (4 * i+j) / 4=i by omega,show (4 * i+j) % 4=j by omega]
            rw [e];exact B5
          · obtain rfl:j=4:=(by omega);(refine q1b<|te<|te<|bx<|bn<|tn<|q0a<|Ls (q1e rfl rfl (by omega))<|m_I rfl<|q0c<|tn ?_);exact ⟨8 - (i+1),by omega,i+1,rfl,by omega,rfl,rfl,rfl,rfl,E,D2,by rw [show 4 * (i+1)=4 * i+4 by omega];exact D5⟩
      · obtain rfl:i=8:=(by omega);have hfull:(Sha.digest S).take (4 * 8)++List.replicate (32 - 4 * 8) 0=Sha.digest S:=(by simp [List.take_of_length_le (show (Sha.digest S).length≤32 by omega)]);rw [hfull] at D5;(refine q1b<|te<|te<|bx<|tn<|q0b<|q0a<|Ls (q2o rfl D5 (by rw [q0t,hdl])) ?_);refine q0m (size:=32) rfl rfl (by rw [q0t,hdl]) q0w D2 rfl ?_;intro w8 B8 hg8 _;(refine q0c<|tn<|q0r ?_);have hD8:w8.heap[D]?=some (.deferred (some [])):=(hg8.block D (by have:=E.size;omega) (by simp;omega)).trans ((E.block D hDb (by simp)).trans hbD);have B9:=(KeepBut.put (g:=g2+1) (.deferred none) hD8 rfl).blk B8 (by omega);refine endQ_resD rfl rfl hD8 (Res.cellA inferInstance rfl (B9.range (fun j u h=>by simpa using h)) (by rw [q0t,hdl]) .nil) ?_;have hE8:Ext w w8:=((Ea.then hbg (fun g h=>by cases h;omega)).trans E).then hg8 (fun g h=>by cases h;omega);exact ⟨rfl,hE8.then (grownBy_putObj' w8 D _) (fun g h=>by cases h;omega)⟩
end Go.Proofs.YtbolofkandcnlaaGreatDoor
namespace Go.Proofs.YtbolofkandcnlaaGreatDoor
open Go.RowKit Go.Proofs.K
theorem own_zero {w:World} {base g m c:Nat} {e:TypeId} {xs:List Value} (h:w.ownsRow base e 1 (.slice (some ⟨g,0,none⟩) m c) m xs):w.ownsRow base e 1 (.slice (some ⟨g,0,none⟩) 0 c) 0 []:=by
  obtain ⟨_,h | ⟨g',cap,cur,he,h1,h2,h3,h4,h5,h6⟩⟩:=h
  · cases h.1
  · injection he with e1 _ e2;injection e1 with e1;injection e1 with e1;subst e1;subst e2;exact ⟨rfl,.inr ⟨_,_,cur,rfl,h1,h2,Nat.zero_le _,h4,h5,by simp⟩⟩
set_option maxHeartbeats 1000000 in
theorem growB (m:Nat) (hm:m≤1000000000) (w:World) :
    Calls Tryz.prog 178 #[.slice none 0 0,.int .i64 (m:Nat)] w fun e w'=>∃ q,e=.returned q∧Ext w w'∧w'.ownsRow w.heap.size 5 1 q 0 []:=by
  refine q0l Tryz.func178 rfl Tryz.ntmps178 rfl ?_;(refine q0b<|q0a<|a_S rfl<|q0c<|tn<|q0b<|q0b<|q0a<|m_I rfl<|Ls (q1w rfl rfl)<|q0c<|tn ?_);refine q1d rfl (fun h=>?_) (fun h=>?_)
  · omega
  · (refine q0o<|tn<|q0b<|q0b<|q0a<|m_I rfl<|m_S rfl ?_);refine Ls (X_cap rfl) ?_;(refine m_S rfl<|Ls (q0h rfl)<|Ls (q2q rfl rfl (by omega))<|Ls (q2q rfl rfl (by omega))<|a_I rfl<|q0c<|tn<|q0b<|q0a<|m_I rfl<|Ls (q5s rfl rfl)<|q0c<|tn ?_);refine q1d rfl (fun h=>?_) (fun h=>?_)
    · (refine q0a<|m_S rfl<|m_S rfl ?_);refine Ls (X_cap rfl) ?_;refine Ls (X_sliceB 0 rfl rfl rfl (by omega)) ?_;(refine m_I rfl ?_);refine L_appendZ (m:=m) (z:=.int .u8 0) rfl rfl (congrArg (Value.int .i64) (by omega)) (by omega) hm ?_;intro c w1 E1 hc hcm ⟨xs,hx,o1⟩;(refine m_S rfl<|Ls (q0h rfl) ?_);refine Ls (X_sliceB 0 rfl rfl rfl (by omega)) ?_;(refine a_S rfl<|q0c<|tn<|q0b<|q0a<|m_S rfl<|a_S rfl<|q0c<|tn<|q0r ?_);refine q0i rfl rfl (v:=.slice _ _ _) rfl ?_;have hc0:c ≠ 0:=(by omega);refine ⟨_,rfl,E1,?_⟩;have:=own_zero o1;simpa [hc0,Addr.add_mid] using this
    · (refine q0o<|tn<|q0b<|q0a<|m_S rfl<|a_S rfl<|q0c<|tn<|q0r ?_);refine q0i rfl rfl (v:=.slice _ _ _) rfl ?_;exact ⟨_,rfl,Ext.refl w,⟨rfl,.inl ⟨rfl,rfl⟩⟩⟩
def cat (ps:List (Value × List Nat)) (i:Nat):List Nat:=((ps.take i).map (·.2)).flatten
theorem z1m {ps:List (Value × List Nat)} {i:Nat} {p:Value × List Nat} (h:ps[i]?=some p):cat ps (i+1)=cat ps i++p.2:=by
  unfold cat;rw [List.take_add_one,h];simp
theorem cat_mono (ps:List (Value × List Nat)) (i:Nat):(cat ps i).length≤(cat ps (i+1)).length:=by
  cases h:ps[i]? with
  | none =>
    unfold cat;rw [List.take_add_one,h];simp
  | some p=>rw [z1m h];simp
theorem cat_le (ps:List (Value × List Nat)) {i j:Nat} (h:i≤j):(cat ps i).length≤(cat ps j).length:=by
  induction j with
  | zero => obtain rfl : i = 0 := by omega
            exact Nat.le_refl _
  | succ j ih =>
    by_cases hij:i=j+1
    · subst hij;exact Nat.le_refl _
    · exact Nat.le_trans (ih (by omega)) (cat_mono ps j)
def z3f (w:World) (ps:List (Value × List Nat)):Prop:=∀ p,p∈ps→∃ lo hi,Row w lo hi 1 p.1 p.2.length (ints .u8 p.2)
theorem z3f.ext {w w':World} {ps:List (Value × List Nat)} (h:z3f w ps) (E:Ext w w'):z3f w' ps:=fun p hp=>by
  obtain ⟨lo,hi,hr⟩:=h p hp;exact ⟨lo,hi,hr.ext E⟩
set_option maxHeartbeats 4000000 in
theorem concatB (lo hi:Nat) (v:Value) (ps:List (Value × List Nat)) (hl:(cat ps ps.length).length≤1000000000) (hn:ps.length≤1000) (w:World) (hr:Row w lo hi 1 v ps.length (ps.map (·.1))) (hp:z3f w ps) :
    Calls Tryz.prog 122 #[v] w fun e w'=>∃ q,e=.returned q∧Ext w w'∧w'.ownsRow w.heap.size 5 1 q (cat ps ps.length).length (ints .u8 (cat ps ps.length)):=by
  refine q0l Tryz.func122 rfl Tryz.ntmps122 rfl ?_;obtain ⟨hl0,A,c,rfl,hc,hcm,hnn⟩:=hr;(refine q0b<|q0a<|a_S rfl<|q0c<|tn<|q0b<|q0a<|a_I rfl<|q0c<|tn<|q0b<|q0b<|q0a<|m_S rfl<|Ls (q0h rfl)<|m_I rfl<|q0c<|tn<|q0j ?_);refine q1k (fun q f w'=>∃ i,q=ps.length - i∧i≤ps.length∧w=w'∧f 0=.slice A ps.length c∧f 3=.int .i64 ((cat ps i).length:Nat)∧f 9=.slice A ps.length c∧f 10=.int .i64 (ps.length:Nat)∧f 11=.int .i64 (i:Nat)) ps.length ?_ ?_
  · exact ⟨0,rfl,by omega,rfl,rfl,rfl,rfl,rfl,rfl⟩
  · rintro q f w' ⟨i,rfl,hi,rfl,h0,h3,h9,h10,h11⟩;rw [fold h0,fold h3,fold h9,fold h10,fold h11];(refine q0b<|q0a<|Ls (q1w rfl rfl)<|q0c<|tn<|q0b ?_);refine q1d rfl (fun h=>?_) (fun h=>?_)
    · have hi':i < ps.length:=(by omega);obtain ⟨b,o,rfl,hb1,hb2,hcell⟩:=hnn (by omega);obtain ⟨p,hpi⟩:∃ p,ps[i]?=some p:=⟨ps[i],List.getElem?_eq_getElem hi'⟩;obtain ⟨plo,phi,prow⟩:=hp p (List.mem_of_getElem? hpi);obtain ⟨pv,pl⟩:=p;have hle:=cat_le ps (show i+1≤ps.length by omega);have hsu:=congrArg List.length (z1m hpi);rw [List.length_append] at hsu;dsimp only at hsu prow;(refine q0o<|tn<|q0b<|q0j<|q0b<|q0a<|Ls (q0n rfl rfl (by omega))<|Ls (q2l (j:=i) (v:=pv) rfl hcell (by omega) (by simp [hpi]))<|Ls (q0e (v:=pv) rfl)<|q0c<|tn<|q0b<|q0a<|m_I rfl<|Ls (q0d (v:=pv) rfl)<|Ls (q3f (v:=pv) rfl prow)<|Ls (q1e rfl rfl (by omega))<|a_I rfl<|q0c<|tn<|q0b<|q0a<|m_I rfl<|Ls (q1w rfl rfl)<|q0c<|tn ?_);refine q1d rfl (fun h=>?_) (fun h=>?_)
      · omega
      · (refine q0o<|bn<|tn<|q0a<|Ls (q1e rfl rfl (by omega))<|m_I rfl<|q0c<|tn ?_);refine ⟨ps.length - (i+1),by omega,i+1,rfl,by omega,rfl,rfl,?_,rfl,rfl,rfl⟩;exact congrArg (Value.int .i64) (by omega)
    · obtain rfl:i=ps.length:=(by omega);(refine q1b<|te<|te<|bx<|tn<|q0b<|q0a<|m_I rfl ?_);refine L_fo rfl (growB _ hl w) ?_;rintro q2 w2 ⟨E2,o2⟩;(refine Ls (q0e (v:=q2) rfl)<|q0c<|tn<|q0b<|q0b<|q0a<|m_S rfl<|Ls (q0h rfl)<|m_I rfl<|q0c<|tn<|q0j ?_);refine q1k (fun q f w'=>∃ i v',q=ps.length - i∧i≤ps.length∧Ext w w'∧w'.ownsRow w.heap.size 5 1 v' (cat ps i).length (ints .u8 (cat ps i))∧f 6=v'∧f 25=.slice A ps.length c∧f 26=.int .i64 (ps.length:Nat)∧f 27=.int .i64 (i:Nat)) ps.length ?_ ?_
      · exact ⟨0,q2,rfl,by omega,E2,o2,rfl,rfl,rfl,rfl⟩
      · clear h0 h3 h9 h10 h11 h hi o2 E2;rintro q f w3 ⟨i,v',rfl,hi,E3,o3,h6,h25,h26,h27⟩;rw [fold h6,fold h25,fold h26,fold h27];(refine q0b<|q0a<|Ls (q1w rfl rfl)<|q0c<|tn<|q0b ?_);refine q1d rfl (fun h=>?_) (fun h=>?_)
        · have hi':i < ps.length:=(by omega);obtain ⟨b,o,rfl,hb1,hb2,hcell⟩:=hnn (by omega);obtain ⟨p,hpi⟩:∃ p,ps[i]?=some p:=⟨ps[i],List.getElem?_eq_getElem hi'⟩;obtain ⟨plo,phi,prow⟩:=hp p (List.mem_of_getElem? hpi);obtain ⟨pv,pl⟩:=p;have hle:=cat_le ps (show i+1≤ps.length by omega);have hsu:=congrArg List.length (z1m hpi);rw [List.length_append] at hsu;dsimp only at hsu prow;(refine q0o<|tn<|q0b<|q0j<|q0b<|q0a<|Ls (q0n rfl rfl (by omega))<|Ls (q2l (j:=i) (v:=pv) rfl (E3.range hcell) (by omega) (by simp [hpi]))<|Ls (q0e (v:=pv) rfl)<|q0c<|tn<|q0a<|Ls (q0d (v:=v') rfl)<|Ls (q0d (v:=pv) rfl) ?_);refine q1c (v:=v') (u:=pv) rfl rfl o3 (prow.ext E3) q0w (by omega) (by omega) (by have:=E3.size;omega) ?_;intro q4 w4 o4 hg4 _;(refine Ls (q0e (v:=q4) rfl)<|q0c<|bn<|tn<|q0a<|Ls (q1e rfl rfl (by omega))<|m_I rfl<|q0c<|tn ?_);refine ⟨ps.length - (i+1),by omega,i+1,q4,rfl,by omega,E3.then hg4 (fun g h=>(o3.lt g h).1),?_,rfl,rfl,rfl,rfl⟩;rw [hsu,z1m hpi,q2i];exact o4
        · obtain rfl:i=ps.length:=(by omega);(refine q1b<|te<|te<|bx<|tn<|q0b<|q0a<|Ls (q0d (v:=v') rfl)<|Ls (q0e (v:=v') rfl)<|q0c<|tn<|q0r ?_);refine q0i rfl rfl (v:=v') rfl ?_;exact ⟨v',rfl,E3,o3⟩
end Go.Proofs.YtbolofkandcnlaaGreatDoor
namespace Go.Proofs.Tr
open Go.Proofs Go.Proofs.K
def head:List Nat:=[97,116,116,101,115,116,111,114,0]
def pre (s:List Nat) (tag:Nat) (lab:List Nat):List Nat:=s++[tag,lab.length % 256]++lab
def new (lab:List Nat):List Nat:=Sha.sum (head++lab)
def absorb (s lab b:List Nat):List Nat:=Sha.sum (pre s 1 lab++word b.length 8++b)
theorem word_lt (x k:Nat):∀ y∈word x k,y < 256:=by
  intro y hy;obtain ⟨i,_,rfl⟩:=List.mem_map.1 hy;exact Nat.mod_lt _ (by omega)
theorem sum_lt (l:List Nat):∀ y∈Sha.sum l,y < 256:=by
  intro y hy;obtain ⟨i,_,rfl⟩:=List.mem_map.1 hy;exact Nat.mod_lt _ (by omega)
theorem new_len (lab:List Nat):(new lab).length=32:=Sha.sum_len _
theorem absorb_len (s lab b:List Nat):(absorb s lab b).length=32:=Sha.sum_len _
theorem pre_len (s:List Nat) (tag:Nat) (lab:List Nat):(pre s tag lab).length=s.length+2+lab.length:=by simp [pre];omega
theorem pre_lt {s lab:List Nat} {tag:Nat} (hs:∀ x∈s,x < 256) (ht:tag < 256) (hl:∀ x∈lab,x < 256):∀ x∈pre s tag lab,x < 256:=by
  intro x hx;simp only [pre,List.mem_append,List.mem_cons,List.not_mem_nil,or_false] at hx;rcases hx with (hx | rfl | rfl) | hx
  · exact hs x hx
  · exact ht
  · exact Nat.mod_lt _ (by omega)
  · exact hl x hx
end Go.Proofs.Tr
namespace Go.Proofs.YtbolofkandcnlaaGreatDoor
open Go.RowKit Go.Proofs.K
def trC (s:List Nat) (c:Nat):List Value:=ints .u8 s++[.int .u64 (c:Nat)]
theorem q1v {s:List Nat} {c:Nat} (h:s.length=32):(trC s c).length=33:=by simp [trC,q0t,h]
theorem q3n {s:List Nat} {c:Nat}:∀ v∈trC s c,v.oneCell'=true:=by
  intro v hv;simp only [trC,List.mem_append,List.mem_singleton] at hv;rcases hv with h | rfl
  · exact q0w v h
  · rfl
theorem trC_state {s:List Nat} {c:Nat} (h:s.length=32):((trC s c).drop 0).take 32=ints .u8 s:=by
  simp [trC,← h,← q0t (k:=.u8) (l:=s)]
instance:TEq Tryz.prog 53:=⟨by kernel_rfl,by kernel_rfl,.inl ⟨_,Tryz.underlying53⟩⟩
theorem kl_tr {s:List Nat} {c:Nat} (h:s.length=32) (h8:∀ x∈s,x < 256) (hc:c < 18446744073709551616):(Tryz.prog).keyLits 3 53 (trC s c)=some (litsD s++[.int .u64 (c:Nat)]):=by
  refine q9i (D:=2) Tryz.underlying53 (by decide) (by decide) ((q1v h).trans (by kernel_rfl)) ?_ ?_
  · rw [show (Tryz.prog).cellsOf 23=32 by kernel_rfl,trC_state h];exact kl_dig h h8
  · have e:((trC s c).drop 32).take ((Tryz.prog).cellsOf 32)=[.int .u64 (c:Nat)]:=by
      rw [show (Tryz.prog).cellsOf 32=1 by kernel_rfl];simp [trC,← h,← q0t (k:=.u8) (l:=s)]
    rw [e];exact Go.Proofs.K.keyLits_int 1 (wf_u64 hc)
theorem lits_tr {s u:List Nat} {c d:Nat}:litsD s++[Lit.int .u64 (c:Nat)]=litsD u++[Lit.int .u64 (d:Nat)]↔s=u∧c=d:=by
  constructor
  · intro h;have:=List.append_inj' h rfl;refine ⟨litsD_inj.1 this.1,?_⟩;have:=this.2;simp at this;omega
  · rintro ⟨rfl,rfl⟩;rfl
section
variable {n:NN} {f:Fr} {w:World} {d:Option Tmp} {t:TypeId} {pos:String} {af:Array Edge} {g:Option (Nat × Bool)} {x y:Operand}
theorem X_eqlTr {s u:List Nat} {c e:Nat} (hs:s.length=32) (hu:u.length=32) (hs8:∀ x∈s,x < 256) (hu8:∀ x∈u,x < 256) (hc:c < 18446744073709551616) (he:e < 18446744073709551616) (hx:ev n f x=.agg (trC s c).toArray) (hy:ev n f y=.agg (trC u e).toArray) :
    X Tryz.prog n ⟨d,.binOp .eql 53 x y 53,t,pos,af,g⟩ f w=.ok (.value (.bool (decide (s=u∧c=e)))) w :=
  X_eqlK hx hy ((q1v hs).trans (by kernel_rfl)) ((q1v hu).trans (by kernel_rfl)) (kl_tr hs hs8 hc) (kl_tr hu hu8 he) (by rw [lits_tr];simp)
end
section
variable {n:NN} {f:Fr} {w:World} {d:Option Tmp} {t:TypeId} {pos:String} {af:Array Edge} {g:Option (Nat × Bool)} {x y:Operand}
theorem z4b {s:List Nat} (hs:s.length=32) (hx:ev n f x=.agg (ints .u8 s).toArray) :
    X Tryz.prog n ⟨d,.build 53 #[(0,x)],t,pos,af,g⟩ f w=.ok (.value (.agg (trC s 0).toArray)) w:=by
  have:=q1x (P:=Tryz.prog) (ty:=53) (n:=n) (f:=f) (w:=w) (d:=d) (t:=t) (pos:=pos) (af:=af) (g:=g) (Parts.cons (i:=0) (c:=ints .u8 s) (z:=(List.replicate 32 [.int .u8 0]).flatten) hx rfl rfl (by rw [q0t,hs];rfl) (Parts.nil _));simpa [trC] using this
end
theorem word_walk (x k:Nat):IntKind.u8.wrap (((x / 256 ^ k:Nat):Int).tmod 256)=((z0b x k:Nat):Int):=by
  rw [show (256:Int)=((256:Nat):Int) from rfl,tmod_nat,z1b];simp [z0b]
set_option maxHeartbeats 1000000 in
theorem rword (x:Nat) (hx:x < 18446744073709551616) (w:World) :
    Calls Tryz.prog 88 #[.int .u64 (x:Nat)] w fun e w'=>∃ q,e=.returned q∧Ext w w'∧w'.ownsRow w.heap.size 5 1 q 8 (ints .u8 (word x 8)):=by
  refine q0l Tryz.func88 rfl Tryz.ntmps88 rfl ?_;(refine q0b<|q0a<|a_S rfl<|q0c<|tn<|q0b<|q0a ?_);refine q5e ?_;intro q1 w1 E1 hs1 o1;(refine Ls (q0e (v:=q1) rfl)<|q0c<|tn<|q0b<|q0b<|q0a<|a_I rfl<|q0c<|tn<|q0j ?_);refine q1k (fun q f w'=>∃ k v',q=8 - k∧k≤8∧f 0=.int .u64 ((x / 256 ^ k:Nat):Int)∧f 3=v'∧f 4=.int .i64 (k:Nat)∧w'.ownsRow w.heap.size 5 1 v' k (ints .u8 (word x k))∧Ext w w') 8 ?_ ?_
  · exact ⟨0,q1,rfl,by omega,show Value.int .u64 (x:Nat)=_ by rw [Nat.pow_zero,Nat.div_one],rfl,rfl,o1,E1⟩
  · rintro q f wr ⟨k,v',rfl,hk,h0,h3,h4,ho,E⟩;rw [fold h0,fold h3,fold h4];(refine q0b<|q0b<|q0a<|m_I rfl<|Ls (q1w rfl rfl)<|q0c<|tn ?_);refine q1d rfl (fun h=>?_) (fun h=>?_)
    · have hk8:k < 8:=(by omega);(refine q0o<|tn<|q0b<|q0j<|q0b<|q0a<|Ls (q0d (v:=v') rfl)<|m_I rfl<|Ls (q7l rfl rfl (by omega))<|Ls (q1q rfl) ?_);refine q3z (v:=.int _ _) rfl rfl ?_;intro u w3 hr E3 _ _;rw [word_walk] at hr;refine q1c (v:=v') (u:=u) rfl rfl (q1p ho E3) hr (by simp [Value.oneCell']) (by omega) (by omega) (by have:=E.size;have:=E3.size;omega) ?_;intro v2 w4 ho2 hg2 hb2;(refine Ls (q0e (v:=v2) rfl)<|q0c<|tn<|q0a<|m_I rfl<|Ls (q7m rfl rfl (by omega))<|a_I rfl<|q0c<|bn<|tn<|q0a<|m_I rfl<|Ls (q1e rfl rfl (by omega))<|a_I rfl<|q0c<|tn ?_);refine ⟨8 - (k+1),by omega,k+1,v2,rfl,by omega,congrArg (Value.int IntKind.u64) ?_,rfl,rfl,?_,(E.trans E3).then hg2 (fun g h=>(ho.lt g h).1)⟩
      · rw [show (256:Int)=((256:Nat):Int) from rfl,tdiv_nat,Nat.div_div_eq_div_mul,Nat.pow_succ,q3m,Nat.mod_eq_of_lt (Nat.lt_of_le_of_lt (Nat.div_le_self _ _) hx)]
      · rw [word_succ,q2i];exact ho2
    · (refine q1b<|te<|te<|bx<|tn<|q0b<|q0a<|Ls (q0d (v:=v') rfl)<|Ls (q0e (v:=v') rfl)<|q0c<|tn<|q0r ?_);refine q0i rfl rfl (v:=v') rfl ?_;obtain rfl:k=8:=(by omega);exact ⟨v',rfl,E,ho⟩
set_option maxHeartbeats 1000000 in
theorem rtagged (s:List Nat) (c tag:Nat) (hs:s.length=32) (lab:ByteArray) (hl:lab.size≤100000000) (w:World) :
    Calls Tryz.prog 92 #[.agg (trC s c).toArray,.int .u8 (tag:Nat),.string lab] w fun e w'=>∃ q,e=.returned q∧Ext w w'∧w'.ownsRow w.heap.size 5 1 q (34+lab.size) (ints .u8 (Tr.pre s tag (sb lab))):=by
  refine q0l Tryz.func92 rfl Tryz.ntmps92 rfl ?_;(refine q0b<|q0a ?_);refine q3t rfl ?_;intro g1 w1 B1 hg1 E1 hs1;(refine a_S rfl<|q0c<|tn<|q0b<|q0a<|Ls (q0g rfl)<|Ls (q4p rfl B1 (trC_state hs) (by rw [q0t,hs])) ?_);refine L_fo rfl (bytes s hs w1) ?_;rintro q2 w2 ⟨E2,o2⟩;(refine m_I rfl<|m_R rfl<|Ls (q2b rfl)<|Ls (q1q rfl) ?_);refine L_lit2 (v:=.int _ _) (u:=.int _ _) rfl rfl rfl rfl ?_;intro q3 w3 r3 E3 hs3 o3;rw [z1b] at r3;have o2':=q1p o2 E3;refine L_fo rfl (join _ _ _ _ q2 q3 s [tag,lab.size % 256] w3 ((Row.of_own o2').re hs.symm rfl) r3 (by simp;omega)) ?_;rintro q4 w4 ⟨E4,o4⟩;(refine Ls (q0e (v:=q4) rfl)<|q0c<|tn<|q0b<|q0a<|Ls (q0d (v:=q4) rfl)<|m_R rfl ?_);refine q8k rfl (by unfold maxLen;omega) ?_;intro q5 w5 E5 r5;have h34:(s++[tag,lab.size % 256]).length=34:=by simp [hs]
  have o4':=q1p o4 E5;refine L_fo rfl (join _ _ _ _ q4 q5 (s++[tag,lab.size % 256]) (sb lab) w5 ((Row.of_own o4').re (by simp) rfl) (r5.re (q3j lab).symm rfl) (by rw [h34,q3j];omega)) ?_;rintro q6 w6 ⟨E6,o6⟩;(refine Ls (q0e (v:=q6) rfl)<|q0c<|tn<|q0r ?_);refine q0i rfl rfl (v:=q6) rfl ?_;have E:Ext w w5:=E1.trans (E2.trans (E3.trans (E4.trans E5)));refine ⟨q6,rfl,E.trans E6,?_⟩;have:=q6n o6 E.size;rw [h34,q3j] at this;simpa [Tr.pre,q3j] using this
set_option maxHeartbeats 1000000 in
theorem rnew (lab:ByteArray) (hl:lab.size≤100000000) (w:World) :
    Calls Tryz.prog 57 #[.string lab] w fun e w'=>e=.returned (.agg (trC (Tr.new (sb lab)) 0).toArray)∧Ext w w':=by
  refine q0l Tryz.func57 rfl Tryz.ntmps57 rfl ?_;(refine q0b<|q0a ?_);refine q0z ?_;intro g1 w1 B1 hg1 E1 hs1;(refine q0c<|tn<|q0b<|q0a ?_);refine L_lits (zs':=(ints .u8 Tr.head).map fun x=>[x]) (cs:=ints .u8 Tr.head) ?_ rfl rfl rfl rfl ?_
  · repeat (first | exact Parts.nil _ | refine Parts.cons rfl rfl rfl rfl ?_)
  intro q2 w2 r2 E2 hs2 _ _;refine L_markB rfl r2 (by omega) ?_;intro w3 b3 hb3 hb3' hg3 r3 hs3;(refine m_R rfl ?_);refine q8k rfl (by unfold maxLen;omega) ?_;intro q4 w4 E4 r4;refine L_fo rfl (join _ _ _ _ q2 q4 Tr.head (sb lab) w4 (r3.ext E4) (r4.re (q3j lab).symm rfl) (by rw [q3j];simp [Tr.head];omega)) ?_;rintro q5 w5 ⟨E5,o5⟩;have hok:Sha.bytesOk (Tr.head++sb lab):=by
    intro x hx;rcases List.mem_append.1 hx with hx | hx
    · exact (show ∀ y∈Tr.head,y < 256 by decide) x hx
    · exact z0q lab x hx
  refine L_fv rfl (sum _ _ q5 (Tr.head++sb lab) hok w5 ((Row.of_own o5).re (by simp) rfl) (by rw [List.length_append,q3j];simp [Tr.head];omega)) ?_;intro w6 E6;refine Ls (z4b (Tr.new_len (sb lab)) rfl) ?_;have Ea:Ext w w3:=(E1.trans E2).then hg3 (fun g h=>by cases h;have:=E1.size;omega);have Eb:=E4.trans (E5.trans E6);have B3:=(B1.ext E2).grown hg3 (by simp;omega);refine q0m rfl rfl (q1v (Tr.new_len _)) q3n (B3.ext Eb) rfl ?_;intro w7 B7 hg7 _;(refine q0c<|tn<|q0r ?_);refine q1h rfl rfl (Res.cellA inferInstance rfl (B7.range (fun j u h=>by simpa using h)) (q1v (Tr.new_len _)) .nil) ?_;exact ⟨rfl,(Ea.trans Eb).then hg7 (fun g h=>by cases h;omega)⟩
set_option maxHeartbeats 1000000 in
theorem rabsorb (lo hi:Nat) (s:List Nat) (c:Nat) (hs:s.length=32) (hs8:∀ x∈s,x < 256) (lab:ByteArray) (hl:lab.size≤100000000) (v:Value) (b:List Nat) (hb8:∀ x∈b,x < 256) (hb:b.length≤100000000) (w:World) (hr:Row w lo hi 1 v b.length (ints .u8 b)) :
    Calls Tryz.prog 56 #[.agg (trC s c).toArray,.string lab,v] w fun e w'=>e=.returned (.agg (trC (Tr.absorb s (sb lab) b) 0).toArray)∧Ext w w':=by
  refine q0l Tryz.func56 rfl Tryz.ntmps56 rfl ?_;(refine q0b<|q0a ?_);refine q3t rfl ?_;intro g1 w1 B1 hg1 E1 hs1;refine q0z ?_;intro g2 w2 B2 hg2 E2 hs2;(refine q0c<|tn<|q0b<|q0a<|Ls (q2o rfl (B1.ext E2) (q1v hs))<|m_R rfl ?_);refine L_fo rfl (rtagged s c 1 hs lab hl w2) ?_;rintro q3 w3 ⟨E3,o3⟩;(refine Ls (q0d (v:=v) rfl)<|Ls (q3f (v:=v) rfl hr)<|Ls (q1q rfl) ?_);have e64:IntKind.u64.wrap ((b.length:Nat):Int)=((b.length:Nat):Int):=by rw [q3m,Nat.mod_eq_of_lt (by omega)]
  rw [e64];refine L_fo rfl (rword b.length (by omega) w3) ?_;rintro q4 w4 ⟨E4,o4⟩;have o3':=q1p o3 E4;have hpl:(Tr.pre s 1 (sb lab)).length=34+lab.size:=by rw [Tr.pre_len,hs,q3j]
  refine L_fo rfl (join _ _ _ _ q3 q4 (Tr.pre s 1 (sb lab)) (word b.length 8) w4 ((Row.of_own o3').re hpl.symm rfl) ((Row.of_own o4).re (q4s _ _).symm rfl) (by rw [hpl,q4s];omega)) ?_;rintro q5 w5 ⟨E5,o5⟩;(refine Ls (q0e (v:=q5) rfl)<|q0c<|tn<|q0b<|q0a<|Ls (q0d (v:=q5) rfl)<|Ls (q0d (v:=v) rfl) ?_);have Ea:=E1.trans (E2.trans (E3.trans (E4.trans E5)));refine L_fo rfl (join _ _ _ _ q5 v (Tr.pre s 1 (sb lab)++word b.length 8) b w5 ((Row.of_own o5).re (by simp) rfl) (hr.ext Ea) (by rw [List.length_append,hpl,q4s];omega)) ?_;rintro q6 w6 ⟨E6,o6⟩;have hok:Sha.bytesOk (Tr.pre s 1 (sb lab)++word b.length 8++b):=by
    intro x hx;simp only [List.mem_append] at hx;rcases hx with (hx | hx) | hx
    · exact Tr.pre_lt hs8 (by omega) (z0q lab) x hx
    · exact Tr.word_lt _ _ x hx
    · exact hb8 x hx
  refine L_fv rfl (sum _ _ q6 (Tr.pre s 1 (sb lab)++word b.length 8++b) hok w6 ((Row.of_own o6).re (by simp;omega) rfl) (by simp only [List.length_append,hpl,q4s];omega)) ?_;intro w7 E7;refine Ls (z4b (Tr.absorb_len s (sb lab) b) rfl) ?_;have Eb:=E3.trans (E4.trans (E5.trans (E6.trans E7)));refine q0m rfl rfl (q1v (Tr.absorb_len _ _ _)) q3n (B2.ext Eb) rfl ?_;intro w8 B8 hg8 _;(refine q0c<|tn<|q0r ?_);refine q1h rfl rfl (Res.cellA inferInstance rfl (B8.range (fun j u h=>by simpa using h)) (q1v (Tr.absorb_len _ _ _)) .nil) ?_;exact ⟨rfl,(Ea.trans (E6.trans E7)).then hg8 (fun g h=>by cases h;have:=E1.size;omega)⟩
structure Shs (w:World):Prop where
  k:Rng w 1 (ints .u32 Sha.ks)
  i:Rng w 0 (ints .u32 Sha.iv.list)
theorem Shs.ext {w w':World} (h:Shs w) (E:Ext w w'):Shs w':=⟨h.k.ext E,h.i.ext E⟩
theorem Row.of_blkG {w:World} {g o m c:Nat} {T:TypeId} {cs xs:List Value} (h:Blk w g T cs) (hc:m≤c) (hm:c≤maxLen) (hl:xs.length=m) (hx:∀ j u,xs[j]?=some u→cs[o+j]?=some u):Row w g (g+1) 1 (.slice (some ⟨g,o,none⟩) m c) m xs :=
  ⟨by omega,_,_,rfl,hc,hm,fun _=>⟨g,o,rfl,Nat.le_refl _,Nat.lt_succ_self _,h.range hx⟩⟩
set_option maxHeartbeats 1000000 in
theorem gtagged (s:List Nat) (c tag:Nat) (hs:s.length=32) (hs8:∀ x∈s,x < 256) (ht:tag < 256) (lab:ByteArray) (hl:lab.size≤100000000) (lo hi:Nat) (v:Value) (ps:List (Value × List Nat)) (hl2:(cat ps ps.length).length≤100000000) (hn:ps.length≤1000) (hp8:∀ x∈cat ps ps.length,x < 256)
    (w:World) (hw:Shs w) (hr:Row w lo hi 1 v ps.length (ps.map (·.1))) (hp:z3f w ps) :
    Calls Tryz.prog 90 #[.agg (trC s c).toArray,.int .u8 (tag:Nat),.string lab,v] w fun e w'=>e=.returned (.agg (ints .u8 (Sha.sum (Tr.pre s tag (sb lab)++cat ps ps.length))).toArray)∧Ext w w':=by
  refine q0l Tryz.func90 rfl Tryz.ntmps90 rfl ?_;(refine q0b<|q0a ?_);refine q3t rfl ?_;intro g1 w1 B1 hg1 E1 hs1;refine q0z ?_;intro g2 w2 B2 hg2 E2 hs2;(refine q0c<|tn<|q0b<|q0a<|Ls (q0g rfl) ?_);refine Ls (X_arrAll rfl (by omega)) ?_;have rs:Row w2 g1 (g1+1) 1 (.slice (some ⟨g1,0+0,none⟩) 32 32) 32 (ints .u8 s):=Row.of_blkG (B1.ext E2) (Nat.le_refl _) (by unfold maxLen;omega) (by rw [q0t,hs]) fun j u h=>by
    have hj:=(List.getElem?_eq_some_iff.1 h).1;simp only [Nat.zero_add];unfold trC;rw [List.getElem?_append_left hj];exact h
  refine L_fo rfl (cloneB _ _ _ s (by omega) w2 (rs.re hs.symm rfl)) ?_;rintro q3 w3 ⟨E3,o3⟩;(refine m_I rfl<|m_R rfl<|Ls (q2b rfl)<|Ls (q1q rfl) ?_);refine L_lit2 (v:=.int _ _) (u:=.int _ _) rfl rfl rfl rfl ?_;intro q4 w4 r4 E4 hs4 _;refine q1c (v:=q3) (u:=q4) rfl rfl (q1p o3 E4) r4 (by simp [Value.oneCell']) (by omega) (by omega) (by have:=E3.size;have:=E4.size;omega) ?_;intro q5 w5 o5 hg5 _;rw [z1b] at o5;(refine Ls (q0e (v:=q5) rfl)<|q0c<|tn<|q0b<|q0a<|Ls (q0d (v:=q5) rfl)<|m_R rfl ?_);refine L_appendS (v:=q5) rfl rfl o5 (by omega) (by have:=E3.size;have:=E4.size;have:=hg5.size;omega) ?_;intro q6 w6 o6 hg6;have E5:Ext w2 w5:=(E3.trans E4).then hg5 (fun g h=>(o3.lt g h).1);have E6:Ext w2 w6:=E5.then hg6 (fun g h=>(o5.lt g h).1);have Ea:Ext w w6:=(E1.trans E2).trans E6;(refine Ls (q0e (v:=q6) rfl)<|q0c<|tn<|q0b<|q0a<|Ls (q0d (v:=q6) rfl)<|Ls (q0d (v:=v) rfl) ?_);refine L_fo rfl (concatB lo hi v ps (by omega) hn w6 (hr.ext Ea) (hp.ext Ea)) ?_;rintro q7 w7 ⟨E7,o7⟩;refine q1c (v:=q6) (u:=q7) rfl rfl (q1p o6 E7) (Row.of_own o7) q0w (by omega) (by omega) (by have:=E6.size;have:=E7.size;omega) ?_;intro q8 w8 o8 hg8 _;have E8:Ext w2 w8:=(E6.trans E7).then hg8 (fun g h=>(o6.lt g h).1);have Eb:Ext w w8:=(E1.trans E2).trans E8;have hok:Sha.bytesOk (Tr.pre s tag (sb lab)++cat ps ps.length):=by
    intro x hx;rcases List.mem_append.1 hx with hx | hx
    · exact Tr.pre_lt hs8 ht (z0q lab) x hx
    · exact hp8 x hx
  have hpl:(Tr.pre s tag (sb lab)++cat ps ps.length).length=34+lab.size+(cat ps ps.length).length:=by rw [List.length_append,Tr.pre_len,hs,q3j]
  have hx8:ints .u8 s++[Value.int .u8 (tag:Nat),Value.int .u8 ((lab.size % 256:Nat):Int)]++ints .u8 (sb lab)++ints .u8 (cat ps ps.length)=ints .u8 (Tr.pre s tag (sb lab)++cat ps ps.length):=by
    simp [Tr.pre,ints,q3j]
  skip;refine L_fv rfl (gshas _ _ q8 (Tr.pre s tag (sb lab)++cat ps ps.length) hok (by omega) w8 ((Row.of_own o8).re (by omega) hx8) (hw.ext Eb).k (hw.ext Eb).i) ?_;intro w9 E9;refine q0m (size:=32) rfl rfl (by rw [q0t,Sha.sum_len]) q0w ((B2.ext E8).ext E9) rfl ?_;intro w10 B10 hg10 _;(refine q0c<|tn<|q0r ?_);refine q1h rfl rfl (Res.cellA inferInstance rfl (B10.range (fun j u h=>by simpa using h)) (by rw [q0t,Sha.sum_len]) .nil) ?_;exact ⟨rfl,(Eb.trans E9).then hg10 (fun g h=>by cases h;have:=E1.size;omega)⟩
end Go.Proofs.YtbolofkandcnlaaGreatDoor
namespace Go.Proofs.YtbolofkandcnlaaGreatDoor
open Go.RowKit Go.Proofs.K Go.ChangeShapes Go.WideShapes Go.ChangeAt
theorem gKq:Tryz.prog.globalNamed "attestor/sha256.constants"=some 1:=by kernel_rfl
theorem gIq:Tryz.prog.globalNamed "attestor/sha256.initial"=some 0:=by kernel_rfl
theorem gKqt:(Tryz.prog.globals[1]?).map (·.type)=some 291:=by kernel_rfl
theorem gIqt:(Tryz.prog.globals[0]?).map (·.type)=some 196:=by kernel_rfl
theorem cKq:Tryz.prog.cellsOf 291=64:=by kernel_rfl
theorem cIq:Tryz.prog.cellsOf 196=8:=by kernel_rfl
theorem c32q:Tryz.prog.cellsOf 195=1:=by kernel_rfl
theorem ks_laidq:(Rows.laid_attestor_sha256_constants:DataW Unit)=Go.Lib.tabData .u32 (Sha.ks.map fun n:Nat=>(n:Int)):=by kernel_rfl
theorem iv_laidq:(Rows.laid_attestor_sha256_initial:DataW Unit)=Go.Lib.tabData .u32 (Sha.iv.list.map fun n:Nat=>(n:Int)):=by kernel_rfl
theorem tab_hereq {W:World} {g:Nat} {name:String} {t e:TypeId} {n f:Nat} {k:IntKind} {l:List Nat} {cs:Array Value} {x:DataW Unit} {p:List MemPlace} (hg:Tryz.prog.globalNamed name=some g) (ht:Tryz.prog.underlying t=some (.array n e)) (he:Tryz.prog.underlying e=some (.int k)) (hce:Tryz.prog.cellsOf e=1) (hct:Tryz.prog.cellsOf t=n)
    (hv:W.var? Tryz.prog name=some cs) (hx:x=Go.Lib.tabData k (l.map fun n:Nat=>(n:Int))) (hd:DataW.trod (fun _=>()) Tryz.prog W 0 (fun _=>true) false f t cs.toList=some (x,p)):Rng W g (ints k l):=by
  subst hx;refine tab_rng (name:=name) (zs:=l.map fun n:Nat=>(n:Int)) ?_ hg rfl;unfold Go.Lib.TabIs;rw [hv,← Go.Lib.cells_of_tab ht he hce hct hd]
set_option maxRecDepth 100000 in
theorem shs {W:World} (h:laidMetH Tryz.prog laids W):Shs W:=by
  have h0:laidMet Tryz.prog (laids.filter fun x=>x.2.handleName?.isNone) W:=(show laidMet Tryz.prog _ W∧handlesMet Tryz.prog _ W from h).1;obtain ⟨ps,⟨_,_,_,_,_,_,_,_,_,_,⟨_,_,_,_,_,_,_,_,_,_,⟨_,_,_,_,_,_,_,_,_,_,⟨_,_,_,_,_,_,_,_,_,_,⟨_,_,_,_,_,_,_,_,_,_,⟨_,_,_,_,_,_,_,_,_,_,⟨g7,t7,cs7,f7,p7,q7,hg7,ht7,hv7,hd7,⟨g8,t8,cs8,f8,p8,q8,hg8,ht8,hv8,hd8,_,_⟩,_⟩,_⟩,_⟩,_⟩,_⟩,_⟩,_⟩,_⟩:=h0;obtain rfl:=Option.some.inj (gKq.symm.trans hg7);obtain rfl:=Option.some.inj (gKqt.symm.trans ht7);obtain rfl:=Option.some.inj (gIq.symm.trans hg8);obtain rfl:=Option.some.inj (gIqt.symm.trans ht8);exact ⟨tab_hereq gKq Tryz.underlying291 Tryz.underlying195 c32q cKq hv7 ks_laidq hd7,tab_hereq gIq Tryz.underlying196 Tryz.underlying195 c32q cIq hv8 iv_laidq hd8⟩
end Go.Proofs.YtbolofkandcnlaaGreatDoor
namespace Go.Proofs.YtbolofkandcnlaaGreatDoor
open Go.RowKit Go.Proofs.K
set_option maxHeartbeats 400000 in
theorem z2z (B m x:Nat) (v:Value) (xs:List Nat) (w:World) (hB:B≤w.heap.size) (hown:w.ownsRow B 5 1 v m (bvs xs)) (hm:m+8≤1000000000) :
    Calls Tryz.prog 91 #[v,.int .u64 (x:Nat)] w fun e w'=>∃ v',e=.returned v'∧w'.ownsRow B 5 1 v' (m+8) (bvs (xs++word x 8))∧Grew w v w' v'∧q6l 5 1 m w w':=by
  refine q0l Tryz.func91 rfl Tryz.ntmps91 rfl ?_;(refine q0b<|q0a<|a_S rfl<|q0c<|tn<|q0b<|q0b<|q0a<|m_I rfl<|q0c<|tn<|q0j ?_);refine q1k (fun q f w'=>∃ k v',q=8 - k∧k≤8∧f 0=v'∧f 1=.int .u64 (x:Nat)∧f 6=.int .i64 (k:Nat)∧w'.ownsRow B 5 1 v' (m+k) (bvs (xs++word x k))∧Grew w v w' v'∧q6l 5 1 m w w') 8 ?_ ?_
  · exact ⟨0,v,rfl,by omega,rfl,rfl,rfl,by simpa [word] using hown,Grew.refl _ _,q6l.of_ext (Ext.refl _)⟩
  · rintro q f wr ⟨k,v',rfl,hk,h0,h1,h6,ho,hg,hkp⟩;rw [fold h0,fold h1,fold h6];(refine q0b<|q0a<|Ls (q1w rfl rfl)<|q0c<|tn<|q0b ?_);refine q1d rfl (fun h=>?_) (fun h=>?_)
    · (refine q0o<|tn<|q0b<|q0j<|q0b<|q0a<|m_I rfl<|a_I rfl<|q0c<|tn<|q0a<|Ls (q0d (v:=v') rfl)<|m_I rfl<|m_I rfl<|Ls (q3q rfl rfl (by omega))<|Ls (q4g rfl rfl (by omega))<|Ls (q1q rfl) ?_);refine q3z (v:=.int _ _) rfl rfl ?_;intro u w1 hr E1 _ _;rw [shr_byte x k (by omega)] at hr;refine L_appendK (v:=v') (u:=u) rfl rfl (q1p ho E1) hr (by simp [Value.oneCell']) (by omega) (by omega) (by have:=hg.g.size;have:=E1.size;omega) ?_;intro v2 w2 ho2 hg2 hb2 hk2;(refine Ls (q0e (v:=v2) rfl)<|q0c<|bn<|tn<|q0a<|Ls (q1e rfl rfl (by omega))<|m_I rfl<|q0c<|tn ?_);refine ⟨8 - (k+1),by omega,k+1,v2,rfl,by omega,rfl,rfl,rfl,?_,(hg.ext E1).trans (Grew.app hg2 hb2),(hkp.trans (q6l.of_ext (m:=m) E1) (Nat.le_refl _)).trans hk2 (by omega)⟩;rw [word_succ,← List.append_assoc,bvs_app,bvs_one];exact ho2
    · (refine q1b<|te<|te<|bx<|tn<|q0b<|q0a<|Ls (q0d (v:=v') rfl)<|Ls (q0e (v:=v') rfl)<|q0c<|tn<|q0r ?_);refine q0i rfl rfl (v:=v') rfl ?_;obtain rfl:k=8:=(by omega);exact ⟨v',rfl,ho,hg,hkp⟩
theorem wordNil (x:Nat) (w:World):Calls Tryz.prog 91 #[.slice none 0 0,.int .u64 (x:Nat)] w fun e w'=>∃ q,e=.returned q∧Ext w w'∧w'.ownsRow w.heap.size 5 1 q 8 (ints .u8 (word x 8)) :=
  (z2z w.heap.size 0 x (.slice none 0 0) [] w (Nat.le_refl _) ⟨rfl,.inl ⟨rfl,rfl⟩⟩ (by omega)).mono fun _ _ ⟨q,he,ho,hg,_⟩=>⟨q,he,hg.g,ho⟩
theorem own_cell {w:World} {base m size:Nat} {e:TypeId} {v:Value} {xs:List Value} (h:w.ownsRow base e size v m xs):v.oneCell'=true:=by
  obtain ⟨_,⟨rfl,_⟩ | ⟨g,cap,cur,rfl,_⟩⟩:=h <;> rfl
theorem row_cell {w:World} {lo hi m size:Nat} {v:Value} {xs:List Value} (h:Row w lo hi size v m xs):v.oneCell'=true:=by
  obtain ⟨_,A,c,rfl,_⟩:=h;rfl
set_option maxHeartbeats 1000000 in
theorem gabsorb (s:List Nat) (c:Nat) (hs:s.length=32) (hs8:∀ x∈s,x < 256) (lab:ByteArray) (hl:lab.size≤100000000) (lo hi:Nat) (v:Value) (b:List Nat) (hb8:∀ x∈b,x < 256) (hb:b.length≤10000000)
    (w:World) (hw:Shs w) (hr:Row w lo hi 1 v b.length (ints .u8 b)) :
    Calls Tryz.prog 54 #[.agg (trC s c).toArray,.string lab,v] w fun e w'=>e=.returned (.agg (trC (Tr.absorb s (sb lab) b) 0).toArray)∧Ext w w':=by
  refine q0l Tryz.func54 rfl Tryz.ntmps54 rfl ?_;(refine q0b<|q0a ?_);refine q3t rfl ?_;intro g1 w1 B1 hg1 E1 hs1;refine q0z ?_;intro g2 w2 B2 hg2 E2 hs2;have Ea:=E1.trans E2;have hv1:=row_cell hr;(refine q0c<|tn<|q0b ?_);apply q1r 10 (by kernel_rfl);(apply DW_x (fun r w hA hH=>(q2o rfl ((B1.ext E2).ext hA) (q1v hs)).trans rfl);apply DW_x (fun r w hA hH=>(q0d (v:=.string _) rfl).trans rfl);apply DW_x (fun r w hA hH=>(q0d (v:=v) rfl).trans rfl);apply DW_x (fun r w hA hH=>(q3f (v:=v) rfl (hr.ext (Ea.trans hA))).trans rfl);apply DW_x (fun r w hA hH=>(q1q rfl).trans rfl))
  ((with_reducible apply q7w);(exact fun _=>rfl);(exact fun _=>rfl);(exact fun r w hA hH=>q6z hA ((by
    rw [q3m,Nat.mod_eq_of_lt (by omega)]
    exact wordNil b.length w)));(exact fun _ _ _ _ _ _ E h=>OwnF.ext E h))
  (apply DW_x (fun r w hA hH=>(q0d (v:=v) rfl).trans rfl))
  apply DW_lit2 (w0:=w2) (fun r=>r 5) (fun r=>v) (fun r=>rfl) (fun r=>rfl) (fun r w hA hH=>(by
    obtain ⟨b5,_,o5⟩:=hH 5 rfl
    exact ⟨own_cell o5,hv1⟩)) (fun w hA=>hA.size) (fun r v=>rfl) (fun r v=>rfl)
  ((with_reducible apply q4r);(exact fun _=>rfl);(exact fun _=>rfl);(exact fun r w hA hH=>(by
    obtain ⟨b5,_,o5⟩:=hH 5 rfl
    obtain ⟨lo7,hi7,_,r7⟩:=hH 7 rfl
    have hps:z3f w [(r 5,word b.length 8),(v,b)]:=by
      intro p hp
      rcases List.mem_cons.1 hp with rfl | hp
      · exact ⟨_,_,(Row.of_own o5).re (q4s _ _).symm rfl⟩
      · rcases List.mem_cons.1 hp with rfl | hp
        · exact ⟨_,_,hr.ext (Ea.trans hA)⟩
        · cases hp
    have hcat:cat [(r 5,word b.length 8),(v,b)] 2=word b.length 8++b:=by simp [cat]
    have:=gtagged s c 1 hs hs8 (by omega) lab hl lo7 hi7 (r 7) [(r 5,word b.length 8),(v,b)] (by rw [show [(r 5,word b.length 8),(v,b)].length=2 from rfl,hcat,List.length_append,q4s];omega) (by simp) (by
      rw [show [(r 5,word b.length 8),(v,b)].length=2 from rfl,hcat]
      intro x hx
      rcases List.mem_append.1 hx with hx | hx
      · exact Tr.word_lt _ _ x hx
      · exact hb8 x hx) w (hw.ext (Ea.trans hA)) r7 hps
    rw [show [(r 5,word b.length 8),(v,b)].length=2 from rfl,hcat,← List.append_assoc] at this
    exact this)))
  ((with_reducible apply DW_x);(exact fun r w hA hH=>(z4b (Tr.absorb_len s (sb lab) b) rfl).trans rfl));((with_reducible exact q2e);(exact rfl);(repeat (first | exact .inr (.inr (fun _ _=>by with_reducible rfl)) | (refine And.intro ?_ ?_) | exact .inr (.inl rfl) | exact .inl (by decide +kernel) | exact trivial | exact .inr (.inr (fun _ _=>rfl))));(try dsimp only [Nat.reduceAdd]));intro r w3 E3 H3;refine q0m rfl rfl (q1v (Tr.absorb_len _ _ _)) q3n (B2.ext E3) rfl ?_;intro w4 B4 hg4 _;(refine q0c<|tn<|q0r ?_);refine q1h rfl rfl (Res.cellA inferInstance rfl (B4.range (fun j u h=>by simpa using h)) (q1v (Tr.absorb_len _ _ _)) .nil) ?_;exact ⟨rfl,(Ea.trans E3).then hg4 (fun g h=>by cases h;have:=E1.size;omega)⟩
set_option maxHeartbeats 1000000 in
theorem gnew (lab:ByteArray) (hl:lab.size≤100000000) (w:World) (hw:Shs w) :
    Calls Tryz.prog 53 #[.string lab] w fun e w'=>e=.returned (.agg (trC (Tr.new (sb lab)) 0).toArray)∧Ext w w':=by
  refine q0l Tryz.func53 rfl Tryz.ntmps53 rfl ?_;(refine q0b<|q0a ?_);refine q0z ?_;intro g1 w1 B1 hg1 E1 hs1;(refine q0c<|tn<|q0b<|q0a<|m_R rfl ?_)
  refine Ls (X_addS rfl rfl (by have : (ByteArray.mk #[97, 116, 116, 101, 115, 116, 111, 114, 0]).size = 9 := rfl
                                omega)) ?_
  have hsz:(ByteArray.mk #[97,116,116,101,115,116,111,114,0]++lab).size=9+lab.size:=by rw [ByteArray.size_append];rfl
  have hsb:sb (ByteArray.mk #[97,116,116,101,115,116,111,114,0]++lab)=Tr.head++sb lab:=by rw [sb_append];rfl
  refine q8k rfl (by unfold maxLen;omega) ?_;intro q4 w4 E4 r4;rw [hsb,hsz] at r4;have hok:Sha.bytesOk (Tr.head++sb lab):=by
    intro x hx;rcases List.mem_append.1 hx with hx | hx
    · exact (show ∀ y∈Tr.head,y < 256 by decide) x hx
    · exact z0q lab x hx
  have hw4:=hw.ext (E1.trans E4);refine L_fv rfl (gshas _ _ q4 (Tr.head++sb lab) hok (by rw [List.length_append,q3j];simp [Tr.head];omega) w4 (r4.re (by rw [List.length_append,q3j];rfl) rfl) hw4.k hw4.i) ?_;intro w6 E6;refine Ls (z4b (Tr.new_len (sb lab)) rfl) ?_;have Eb:=E4.trans E6;refine q0m rfl rfl (q1v (Tr.new_len _)) q3n (B1.ext Eb) rfl ?_;intro w7 B7 hg7 _;(refine q0c<|tn<|q0r ?_);refine q1h rfl rfl (Res.cellA inferInstance rfl (B7.range (fun j u h=>by simpa using h)) (q1v (Tr.new_len _)) .nil) ?_;exact ⟨rfl,(E1.trans Eb).then hg7 (fun g h=>by cases h;omega)⟩
def exs (l:List (Nat × Nat)):List Value:=(l.map fun p=>exC p.1 p.2).flatten
theorem exs_get {l:List (Nat × Nat)} {i:Nat} {p:Nat × Nat} (h:l[i]?=some p):(exs l)[i * 2]?=some (.int .u64 (p.1:Nat))∧(exs l)[i * 2+1]?=some (.int .u64 (p.2:Nat)):=by
  induction l generalizing i with
  | nil=>simp at h
  | cons q l ih =>
    have e:exs (q :: l)=[.int .u64 (q.1:Nat),.int .u64 (q.2:Nat)]++exs l:=(by simp [exs,exC]);cases i with
    | zero=>simp at h;subst h;rw [e];exact ⟨rfl,rfl⟩
    | succ i =>
      have:=ih (i:=i) (by simpa using h);rw [e,List.getElem?_append_right (by simp;omega),List.getElem?_append_right (by simp;omega)];simp only [List.length_cons,List.length_nil];rw [show (i+1) * 2 - (0+1+1)=i * 2 by omega,show (i+1) * 2+1 - (0+1+1)=i * 2+1 by omega];exact this
def enc (l:List (Nat × Nat)):List Nat:=(l.map fun p=>word p.1 8++word p.2 8).flatten
theorem enc_app (a b:List (Nat × Nat)):enc (a++b)=enc a++enc b:=by simp [enc]
theorem enc_len (l:List (Nat × Nat)):(enc l).length=16 * l.length:=by
  induction l with
  | nil=>rfl
  | cons p l ih=>simp only [enc,List.map_cons,List.flatten_cons,List.length_append,List.length_cons,q4s] at ih ⊢;omega
theorem enc_succ {l:List (Nat × Nat)} {i:Nat} {p:Nat × Nat} (h:l[i]?=some p):enc (l.take (i+1))=enc (l.take i)++word p.1 8++word p.2 8:=by
  rw [List.take_add_one,h,enc_app];simp [enc]
theorem enc_take_len {l:List (Nat × Nat)} {i:Nat} (hi:i≤l.length):(enc (l.take i)).length=16 * i:=by rw [enc_len,List.length_take,Nat.min_eq_left hi]
def z2j (x:Int):Nat:=(x % 18446744073709551616).toNat
theorem z2p (x:Int):IntKind.u64.wrap x=((z2j x:Nat):Int):=by
  rw [IntKind.wrap_u64];unfold z2j;omega
def i64s (l:List Int):List Value:=l.map (.int .i64)
def encI (l:List Int):List Nat:=(l.map fun x=>word (z2j x) 8).flatten
theorem encI_app (a b:List Int):encI (a++b)=encI a++encI b:=by simp [encI]
theorem z3w (l:List Int):(encI l).length=8 * l.length:=by
  induction l with
  | nil=>rfl
  | cons p l ih=>simp only [encI,List.map_cons,List.flatten_cons,List.length_append,List.length_cons,q4s] at ih ⊢;omega
theorem encI_succ {l:List Int} {i:Nat} {p:Int} (h:l[i]?=some p):encI (l.take (i+1))=encI (l.take i)++word (z2j p) 8:=by
  rw [List.take_add_one,h,encI_app];simp [encI]
theorem encI_lt (l:List Int):∀ x∈encI l,x < 256:=by
  intro x hx;obtain ⟨c,hc,hx⟩:=List.mem_flatten.1 hx;obtain ⟨p,_,rfl⟩:=List.mem_map.1 hc;exact Tr.word_lt _ _ x hx
theorem q9y {l:List Int} {i:Nat} (hi:i≤l.length):(encI (l.take i)).length=8 * i:=by rw [z3w,List.length_take,Nat.min_eq_left hi]
end Go.Proofs.YtbolofkandcnlaaGreatDoor
