/- A part of the proof that the law returns true for every input: an executor for the model's code, and what functions of the program compute. -/
import Derived.Test.YtcafjpldfnegiaaGreatDoorB11
import Derived.Test.YtcafjpldfnegiaaGreatDoorB15
import Derived.Test.YtcafjpldfnegiaaGreatDoorB17
import Derived.Test.YtcafjpldfnegiaaGreatDoorB19
import Derived.Test.YtcafjpldfnegiaaGreatDoorB20
import Derived.Test.YtcafjpldfnegiaaGreatDoorB21
import Derived.KernelRfl
open Go IntKind
namespace Go.Fw
set_option maxRecDepth 100000
abbrev SmlZ(z:Int):Prop:=Sml z.natAbs
theorem z0q{n:Nat}(h:n<18446744073709551616):Sml n:=Sml.of_lt (k:=8) (by simpa using h) (by decide)
theorem z0u(n:Int)(h: -9223372036854775808≤n∧n≤9223372036854775807):PCall P 206 [j5 n] (J2 n):=by
 by_cases hn:n<0
 · have e:u64.wrap (0-u64.wrap n)= -n:=by rw[z1Y,z1Y];omega
   refine(zpD n (by simpa using hn) (by rw[e];omega) (by rw[e];omega) (z0q (by rw[e];omega))).eq ?_
   rw[e]
   have:sgn true (-n).toNat=n:=by simp only[sgn,if_true];omega
   rw[this];rfl
 · have e:u64.wrap n=n:=by rw[z1Y];omega
   refine(zqy n (by simpa using hn) (by rw[e];omega) (by rw[e];omega) (z0q (by rw[e];omega))).eq ?_
   rw[e]
   have:sgn false n.toNat=n:=by simp only[sgn,Bool.false_eq_true,if_false];omega
   rw[this];rfl
theorem z0S(a:Int):PCall P 189 [J2 a] (J2 (-a)):=by
 have key:(J2 (-a))=CV.agg [CV.lit (.bool (decide (0<a))),CV.lit (.string (bytesOf a.natAbs))]:=by
  rw[J2,Int.natAbs_neg];congr 4;exact decide_eq_decide.2 (by omega)
 rw[key]
 by_cases h:a<0
 · refine(zlU a (by simpa using h)).eq ?_
   rw[decide_eq_false (by omega)]
 · refine(zkx a (by simpa using h)).eq ?_
   rw[Q3]
   by_cases h0:a=0
   · subst h0;rfl
   · rw[decide_eq_false (p:=a.natAbs=0) (by omega),decide_eq_true (p:=0<a) (by omega)];rfl
theorem z0m(a:Int):PCall P 215 [J2 a] (j5 a.sign):=by
 by_cases h0:a=0
 · subst h0;exact zhB 0 (by rw[Q3];rfl)
 · have h1:((bytesOf a.natAbs).toList==[])=false:=by rw[Q3];simpa using h0
   by_cases h:a<0
   · refine(zfE a h1 (by simpa using h)).eq ?_
     rw[Int.sign_eq_neg_one_of_neg h]
   · refine(zfV a h1 (by simpa using h)).eq ?_
     rw[Int.sign_eq_one_of_pos (by omega)]
theorem z7I{a b:Int}(h:a=b):J2 a=J2 b:=by rw[h]
theorem z1H(a b:Int)(ha:SmlZ a)(hb:SmlZ b)(hs:Sml (a.natAbs+b.natAbs)):PCall P 202 [J2 a,J2 b] (J2 (a+b)):=by
 have la:(dig 4294967296 a.natAbs).length<2^30:=ha.dig32
 have lb:(dig 4294967296 b.natAbs).length<2^30:=hb.dig32
 by_cases h:decide (a<0)=decide (b<0)
 · refine(zmS a b (by simpa using h) ha hb (by omega) (by omega) hs).eq (z7I ?_)
   have h':=decide_eq_decide.1 h
   by_cases hn:a<0
   · rw[decide_eq_true hn];simp only[sgn,if_true];omega
   · rw[decide_eq_false hn];simp only[sgn,Bool.false_eq_true,if_false];omega
 · have hc:=z7w (a:=a.natAbs) (b:=b.natAbs)
   have h': ¬(a<0↔b<0):=fun e=>h (decide_eq_decide.2 e)
   by_cases hcmp:a.natAbs<b.natAbs
   · refine(zlT a b (by simpa using h) (by have:=hc.2 hcmp;simpa using this) ha hb (by omega) (by omega) (by omega) (by omega) (hb.mono (by omega))).eq (z7I ?_)
     by_cases hn:b<0
     · rw[decide_eq_true hn];simp only[sgn,if_true];omega
     · rw[decide_eq_false hn];simp only[sgn,Bool.false_eq_true,if_false];omega
   · refine(zkH a b (by simpa using h) (by have:=(not_congr hc).2 hcmp;simpa using this) ha hb (by omega) (by omega) (by omega) (by omega) (ha.mono (by omega))).eq (z7I ?_)
     by_cases hn:a<0
     · rw[decide_eq_true hn];simp only[sgn,if_true];omega
     · rw[decide_eq_false hn];simp only[sgn,Bool.false_eq_true,if_false];omega
theorem z0a(a b:Int)(ha:SmlZ a)(hb:SmlZ b)(hs:Sml (a.natAbs*b.natAbs)):PCall P 203 [J2 a,J2 b] (J2 (a*b)):=by
 have la:(dig 4294967296 a.natAbs).length<2^30:=ha.dig32
 have lb:(dig 4294967296 b.natAbs).length<2^30:=hb.dig32
 refine(zm9 a b ha hb (by omega) (by omega) hs).eq (z7I ?_)
 have e1:sgn (decide (a<0)) a.natAbs=a:=by
  by_cases h:a<0
  · rw[decide_eq_true h];simp only[sgn,if_true];omega
  · rw[decide_eq_false h];simp only[sgn,Bool.false_eq_true,if_false];omega
 have e2:sgn (decide (b<0)) b.natAbs=b:=by
  by_cases h:b<0
  · rw[decide_eq_true h];simp only[sgn,if_true];omega
  · rw[decide_eq_false h];simp only[sgn,Bool.false_eq_true,if_false];omega
 have key: ∀(p q:Bool) (x y:Nat),sgn (!(p==q)) (x*y)=sgn p x*sgn q y:=by
  intro p q x y
  cases p<;>cases q<;>simp[sgn,Int.neg_mul,Int.mul_neg]
 rw[key,e1,e2]
theorem W7(z:Int)(h:z.natAbs<256^7):PCall P 194 [J2 z] (.tup [j5 z,.lit (.bool true)]):=
 zfk z (decide_eq_false (by have:=(V7 (n:=z.natAbs) (k:=7)).2 h;omega)) (by omega)
theorem z28(z:Int)(h:256^7≤z.natAbs):PCall P 194 [J2 z] (.tup [j5 0,.lit (.bool false)]):=
 zdK z (decide_eq_true (by
  have: ¬(bytesOf z.natAbs).size≤7:=fun h'=>by have:=V7.1 h';omega
  omega))
theorem U3(a:Int):PCall P 183 [J2 a] (j5 a.sign):=by
 by_cases h0:a=0
 · subst h0;exact zhQ 0 (by rw[Q3];rfl)
 · have h1:((bytesOf a.natAbs).toList==[])=false:=by rw[Q3];simpa using h0
   by_cases h:a<0
   · refine(zfG a h1 (by simpa using h)).eq ?_
     rw[Int.sign_eq_neg_one_of_neg h]
   · refine(zg6 a h1 (by simpa using h)).eq ?_
     rw[Int.sign_eq_one_of_pos (by omega)]
theorem z6h(a:Int):PCall P 186 [J2 a] (J2 (a.natAbs:Int)):=by
 refine(zlK a).eq ?_
 rw[J2,Int.natAbs_natCast,decide_eq_false (by omega)]
theorem z0R(a:Int):PCall P 132 [J2 a] (J2 (-a)):=by
 by_cases h0:a=0
 · subst h0;exact ziO 0 (by rw[Q3];rfl)
 · have h1:((bytesOf a.natAbs).toList==[])=false:=by rw[Q3];simpa using h0
   refine(zlp a h1).eq ?_
   rw[J2,Int.natAbs_neg]
   congr 4
   by_cases h:a<0
   · rw[decide_eq_true h,decide_eq_false (by omega)];rfl
   · rw[decide_eq_false h,decide_eq_true (by omega)];rfl
theorem Ps.app{a b:List Prop}(ha:Ps a)(hb:Ps b):Ps (a++b):=by
 induction ha with
 |nil=>exact hb
 |cons h t ih=>exact .cons h ih
def zh3(B:Nat→Bool)(S:Nat→ByteArray):List CV:=[.lit (.bool (B 0)),X1 (S 0),.lit (.bool (B 1)),X1 (S 1),.lit (.bool (B 2)),X1 (S 2),.lit (.bool (B 3)),X1 (S 3),.lit (.bool (B 4)),X1 (S 4)]
def zte(B:Nat→Bool)(S:Nat→ByteArray):CV:= .agg (zh3 B S)
def i5(W:Nat→Int):List CV:=[j5 (W 0),j5 (W 1),j5 (W 2),j5 (W 3),j5 (W 4)]
theorem U1(l:List CV):CvL (own l):=CvL.map_cv l
def wdO(B:Nat→Bool)(S:Nat→ByteArray)(W:Nat→Int)(i:Nat):St:=⟨J1 58 [(1,.ptr 0 0),(2,.ptr 1 0),(4,.ptr 2 0),(5,.cv (j5 (i:Int)))],[some (own (zh3 B S)),some (own (i5 fun _=>0)),some (own (i5 W))]⟩
def wdI(B:Nat→Bool)(S:Nat→ByteArray)(W:Nat→Int)(i k:Nat):St:=⟨J1 58 [(1,.ptr 0 0),(2,.ptr 1 0),(4,.ptr 2 0),(5,.cv (j5 (i:Int))),(6,.ptr 3 0),(7,.cv (j5 (k:Int)))],[some (own (zh3 B S)),some (own (i5 fun _=>0)),some (own (i5 W)),some (own [.lit (.bool (B i)),X1 (S i)])]⟩
def zfO(i:Nat):List Prop:=match i with|4=>[2≤2]|i=>[2≤2,(0:Int)≤(i:Int)∧(i:Int)<4,2≤2]
def wdS(i:Nat):Nat:=match i with|4=>15|_=>20
theorem z7A{i:Nat}(h:i<5):Ps (zfO i):=by
 have:i=0∨i=1∨i=2∨i=3∨i=4:=by omega
 rcases this with rfl|rfl|rfl|rfl|rfl<;>first|exact .cons (Nat.le_refl _) (.cons (by decide) (.cons (Nat.le_refl _) .nil))|exact .cons (Nat.le_refl _) .nil
def wdV(W:Nat→Int)(b:Bool):CV:= .tup [.agg (i5 W),.lit (.bool b)]
section
variable(B:Nat→Bool)(S:Nat→ByteArray)(W:Nat→Int)
theorem zu0: ∀i,i<5→z3O P 125 (loopHead P 125 0) (wdO B S W i) [(wdS i,.b true)] false 100000= .ret (wdV W false) (zfO i++[decide (((S i).size:Int)>3)=true,5≤5]):=by
 intro i hi
 have:i=0∨i=1∨i=2∨i=3∨i=4:=by omega
 rcases this with rfl|rfl|rfl|rfl|rfl<;>(show _=_;kernel_rfl)
theorem zu8 : ∀ i, i < 5 → z3O P 125 (loopHead P 125 0) (wdO B S W i) [(wdS i, .b false), (wdS i + 2, .r (.lit (.bool false)))] false 100000 =
    .ret (wdV W false) (zfO i++[decide (((S i).size:Int)>3)=false,PCall P 193 [.agg [.lit (.bool (B i)),X1 (S i)]] (.lit (.bool false)),5≤5]):=by
 intro i hi
 have:i=0∨i=1∨i=2∨i=3∨i=4:=by omega
 rcases this with rfl|rfl|rfl|rfl|rfl<;>(show _=_;kernel_rfl)
theorem ztY : ∀ i, i < 5 → (z3O P 125 (loopHead P 125 0) (wdO B S W i) [(wdS i, .b false), (wdS i + 2, .r (.lit (.bool true))), (wdS i + 7, .stop)] false 100000).pick [1, 2, 4, 5, 6, 7] [0, 1, 2, 3] =
    some (loopHead P 125 1,wdI B S W i 0,zfO i++[decide (((S i).size:Int)>3)=false,PCall P 193 [.agg [.lit (.bool (B i)),X1 (S i)]] (.lit (.bool true)),CvL (own (zh3 B S)),CvL (own (i5 fun _=>0)),CvL (own (i5 W)),CvL (own [.lit (.bool (B i)),X1 (S i)])]):=by
 intro i hi
 have:i=0∨i=1∨i=2∨i=3∨i=4:=by omega
 rcases this with rfl|rfl|rfl|rfl|rfl<;>(show _=_;kernel_rfl)
def z8i(W:Nat→Int)(k:Nat)(z:Int):Nat→Int:=fun n=>match Nat.beq n k with|true=>z|false=>W n
theorem zuc (k : Nat) : ∀ i, i < 5 → (z3O P 125 (loopHead P 125 1) (wdI B S W i k) [(6, .b true), (23, .stop)] false 100000).pick [1, 2, 4, 5, 6, 7] [0, 1, 2, 3] =
    some (loopHead P 125 1,⟨J1 58 [(1,.ptr 0 0),(2,.ptr 1 0),(4,.ptr 2 0),(5,.cv (j5 (i:Int))),(6,.ptr 3 0),(7,.cv (j5 (i64.wrap ((k:Int)+1))))],[some (own (zh3 B S)),some (own (i5 fun _=>0)),
     some (own (i5 (z8i W i (i64.wrap (i64.wrap (W i*256)+i64.wrap (((S i).data.getD (k:Int).toNat (OfNat.ofNat 0)).toNat:Int)))))),some (own [.lit (.bool (B i)),X1 (S i)])]⟩,
     [decide ((k:Int)<((S i).size:Int))=true,(0:Int)≤(i:Int)∧(i:Int)<5,(0:Int)≤8,0≤(k:Int)∧(k:Int)<((S i).size:Int),(0:Int)≤(i:Int)∧(i:Int)<5,i+1≤5,CvL (own (zh3 B S)),CvL (own (i5 fun _=>0)),CvL (own (i5 (z8i W i (i64.wrap (i64.wrap (W i*256)+i64.wrap (((S i).data.getD (k:Int).toNat (OfNat.ofNat 0)).toNat:Int)))))),CvL (own [.lit (.bool (B i)),X1 (S i)])]):=by
 intro i hi
 have:i=0∨i=1∨i=2∨i=3∨i=4:=by omega
 rcases this with rfl|rfl|rfl|rfl|rfl<;>(show _=_;kernel_rfl)
theorem zu4 (k : Nat) : ∀ i, i < 5 → (z3O P 125 (loopHead P 125 1) (wdI B S W i k) [(6, .b false), (9, .b true), (20, .stop)] false 100000).pick [1, 2, 4, 5] [0, 1, 2] =
    some (loopHead P 125 0,wdO B S (z8i W i (i64.wrap (0-W i))) (i+1),[decide ((k:Int)<((S i).size:Int))=false,B i=true,(0:Int)≤(i:Int)∧(i:Int)<5,(0:Int)≤(i:Int)∧(i:Int)<5,i+1≤5,CvL (own (zh3 B S)),CvL (own (i5 fun _=>0)),CvL (own (i5 (z8i W i (i64.wrap (0-W i)))))]):=by
 intro i hi
 have:i=0∨i=1∨i=2∨i=3∨i=4:=by omega
 rcases this with rfl|rfl|rfl|rfl|rfl<;>(show _=_;kernel_rfl)
theorem zui (k : Nat) : ∀ i, i < 5 → (z3O P 125 (loopHead P 125 1) (wdI B S W i k) [(6, .b false), (9, .b false), (13, .stop)] false 100000).pick [1, 2, 4, 5] [0, 1, 2] =
    some (loopHead P 125 0,wdO B S W (i+1),[decide ((k:Int)<((S i).size:Int))=false,B i=false,CvL (own (zh3 B S)),CvL (own (i5 fun _=>0)),CvL (own (i5 W))]):=by
 intro i hi
 have:i=0∨i=1∨i=2∨i=3∨i=4:=by omega
 rcases this with rfl|rfl|rfl|rfl|rfl<;>(show _=_;kernel_rfl)
theorem zu7:z3O P 125 (loopHead P 125 0) (wdO B S W 5) [] false 100000= .ret (wdV W true) [5≤5]:=by
 show _=_
 kernel_rfl
theorem ztO:(zcz P 125 [zte B S] [(5,.stop)] false 100000).pick [1,2,4,5] [0,1,2]=some (loopHead P 125 0,wdO B S (fun _=>0) 0,[CvL (own (zh3 B S)),CvL (own (i5 fun _=>0)),CvL (own (i5 fun _=>0))]):=by
 show _=_
 kernel_rfl
end
def zOf(b:Bool)(s:ByteArray):Int:=if b then-(J9 s:Int)else J9 s
def z4o(B:Nat→Bool)(S:Nat→ByteArray)(i:Nat):Int:=zOf (B i) (S i)
def z83(B:Nat→Bool)(S:Nat→ByteArray)(n:Nat):Nat→Int:=fun j=>if j<n then z4o B S j else 0
theorem z9d(W:Nat→Int)(i:Nat)(x y:Int):z8i (z8i W i x) i y=z8i W i y:=by
 funext n;unfold z8i;split<;>rfl
theorem z9t(W:Nat→Int)(i:Nat)(x:Int):z8i W i x i=x:=by unfold z8i;rw[Nat.beq_refl]
theorem zd8(W:Nat→Int)(i:Nat):z8i W i (W i)=W:=by
 funext n;unfold z8i
 split
 · rename_i h;rw[Nat.eq_of_beq_eq_true h]
 · rfl
theorem zjm(W:Nat→Int){i j:Nat}(x:Int)(h:j≠i):z8i W i x j=W j:=by
 unfold z8i
 split
 · rename_i hh;exact absurd (Nat.eq_of_beq_eq_true hh) h
 · rfl
theorem z93(B:Nat→Bool)(S:Nat→ByteArray)(i:Nat):z8i (z83 B S i) i (z4o B S i)=z83 B S (i+1):=by
 funext n
 by_cases h:n=i
 · subst h;rw[z9t];simp[z83]
 · rw[zjm _ _ h];unfold z83;simp only[show(n<i+1)=(n<i)from propext (by omega)]
section
variable{B:Nat→Bool}{S:Nat→ByteArray}
theorem zrk {R : Goal} (hn : R.n = 0) (W : Nat → Int) (i : Nat) (hi : i < 5) (hs : (S i).size ≤ 3) (hR : Ok P 125 (loopHead P 125 1) (wdI B S (z8i W i (J9 (S i) : Nat)) i (S i).size) R) : ∀ (d k : Nat), k + d = (S i).size →
    Ok P 125 (loopHead P 125 1) (wdI B S (z8i W i (J9 (S i)/256^((S i).size-k):Nat)) i k) R
 |0,k,hk=>by
  have:k=(S i).size:=by omega
  subst this
  simpa using hR
 |d+1,k,hk=>by
  have hb:=z79 (S i) (i:=k) (by omega)
  have hV:J9 (S i)<16777216:=Nat.lt_of_lt_of_le (z0L _) (Nat.pow_le_pow_right (by decide) hs)
  have hstep:J9 (S i)/256^((S i).size-(k+1))=J9 (S i)/256^((S i).size-k)*256+J9 (S i)/256^((S i).size-1-k)%256:=by
   rw[show(S i).size-k=((S i).size-1-k)+1 by omega,Nat.pow_succ,←Nat.div_div_eq_div_mul,show(S i).size-(k+1)=(S i).size-1-k by omega]
   omega
  have hle:=Nat.div_le_self (J9 (S i)) (256^((S i).size-(k+1)))
  have ih:=zrk hn W i hi hs hR d (k+1) (by omega)
  refine okS (zuc B S _ k i hi) rfl (.cons (decide_eq_true (by omega)) (.cons (by omega) (.cons (by decide) (.cons (by omega) (.cons (by omega) (.cons (by omega) (.cons (U1 _) (.cons (U1 _) (.cons (U1 _) (.cons (U1 _) .nil)))))))))) (by rw[hn];rfl) ?_
  rw[z9t,z9d,Int.toNat_natCast,hb,w64 (n:=(k:Int)+1) (by omega)]
  rw[hstep]at ih hle
  rw[show i64.wrap (i64.wrap (((J9 (S i)/256^((S i).size-k):Nat):Int)*256)+i64.wrap ((J9 (S i)/256^((S i).size-1-k)%256:Nat):Int))=((J9 (S i)/256^((S i).size-k)*256+J9 (S i)/256^((S i).size-1-k)%256:Nat):Int) by
   generalize J9 (S i)/256^((S i).size-k)=X at hle ⊢
   generalize J9 (S i)/256^((S i).size-1-k)%256=Y at hle ⊢
   rw[w64 (n:=(X:Int)*256) (by omega),w64 (n:=(Y:Int)) (by omega),w64 (by omega)];omega]
  exact ih
def z6A(B:Nat→Bool)(S:Nat→ByteArray)(i:Nat):Prop:=(S i).size≤3∧J5 (B i) (S i)=true
theorem z4v{R:Goal}(hn:R.n=0)(i:Nat)(hi:i<5)(ho:z6A B S i)(hR:Ok P 125 (loopHead P 125 0) (wdO B S (z83 B S (i+1)) (i+1)) R):Ok P 125 (loopHead P 125 0) (wdO B S (z83 B S i) i) R:=by
 have hV:J9 (S i)<16777216:=Nat.lt_of_lt_of_le (z0L _) (Nat.pow_le_pow_right (by decide) ho.1)
 refine okS (ztY B S _ i hi) rfl ((z7A hi).app (.cons (decide_eq_false (by have:=ho.1;omega)) (.cons ((J6 _ _).eqB ho.2) (.cons (U1 _) (.cons (U1 _) (.cons (U1 _) (.cons (U1 _) .nil))))))) (by rw[hn];rfl) ?_
 have h0:z83 B S i i=0:=by simp[z83]
 have:=zrk (B:=B) (R:=R) hn (z83 B S i) i hi ho.1 ?_ (S i).size 0 (by omega)
 · rw[Nat.sub_zero,Nat.div_eq_of_lt (z0L _),show((0:Nat):Int)=z83 B S i i from h0.symm,zd8]at this
   exact this
 · cases hb:B i with
   |true=>
    refine okS (zu4 B S _ _ i hi) rfl (.cons (decide_eq_false (by omega)) (.cons hb (.cons (by omega) (.cons (by omega) (.cons (by omega) (.cons (U1 _) (.cons (U1 _) (.cons (U1 _) .nil)))))))) (by rw[hn];rfl) ?_
    rw[z9t,z9d,w64 (by omega)]
    have e:(0:Int)-(J9 (S i):Int)=z4o B S i:=by simp[z4o,zOf,hb]
    rw[e,z93];exact hR
   |false=>
    refine okS (zui B S _ _ i hi) rfl (.cons (decide_eq_false (by omega)) (.cons hb (.cons (U1 _) (.cons (U1 _) (.cons (U1 _) .nil))))) (by rw[hn];rfl) ?_
    have e:(J9 (S i):Int)=z4o B S i:=by simp[z4o,zOf,hb]
    rw[e,z93];exact hR
theorem zaX{W V:Nat→Int}(h: ∀i,i<5→W i=V i):i5 W=i5 V:=by
 simp only[i5,h 0 (by decide),h 1 (by decide),h 2 (by decide),h 3 (by decide),h 4 (by decide)]
theorem zav(h: ∀i,i<5→z6A B S i):PCall P 125 [zte B S] (wdV (z4o B S) true):=by
 refine Y6 (z91 (ztO B S) rfl (.cons (U1 _) (.cons (U1 _) (.cons (U1 _) .nil))) ?_)
 have e:(fun _=>(0:Int))=z83 B S 0:=by funext n;simp[z83]
 rw[e]
 have hn:(Goal.of (fun x=>x=wdV (z4o B S) true)).n=0:=rfl
 refine z4v hn 0 (by decide) (h 0 (by decide)) (z4v hn 1 (by decide) (h 1 (by decide)) (z4v hn 2 (by decide) (h 2 (by decide)) (z4v hn 3 (by decide) (h 3 (by decide)) (z4v hn 4 (by decide) (h 4 (by decide)) ?_))))
 refine okR (zu7 B S _) (.cons (Nat.le_refl _) .nil) ?_
 show wdV _ _=_
 unfold wdV
 rw[zaX (V:=z4o B S) (fun i hi=>by simp[z83,hi])]
theorem z8j(h: ¬ ∀i,i<5→z6A B S i): ∃W,PCall P 125 [zte B S] (wdV W false):=by
 have hm: ∃m,m<5∧ ¬z6A B S m∧ ∀i,i<m→z6A B S i:=by
  have h': ∃i,i<5∧ ¬z6A B S i:=Classical.byContradiction fun hc=>h fun i hi=>Classical.byContradiction fun hd=>hc ⟨i,hi,hd⟩
  obtain⟨i,hi,hb⟩:=h'
  induction i using Nat.strongRecOn with
  |_ i ih=>
   by_cases hl: ∀j,j<i→z6A B S j
   · exact⟨i,hi,hb,hl⟩
   · have: ∃j,j<i∧ ¬z6A B S j:=Classical.byContradiction fun hc=>hl fun j hj=>Classical.byContradiction fun hd=>hc ⟨j,hj,hd⟩
     obtain⟨j,hj,hjb⟩:=this
     exact ih j hj (by omega) hjb
 obtain⟨m,hm,hb,hall⟩:=hm
 refine⟨z83 B S m,Y6 (z91 (ztO B S) rfl (.cons (U1 _) (.cons (U1 _) (.cons (U1 _) .nil))) ?_)⟩
 have e:(fun _=>(0:Int))=z83 B S 0:=by funext n;simp[z83]
 rw[e]
 have hn:(Goal.of (fun x=>x=wdV (z83 B S m) false)).n=0:=rfl
 have key: ∀d i,i+d=m→Ok P 125 (loopHead P 125 0) (wdO B S (z83 B S i) i) (Goal.of (fun x=>x=wdV (z83 B S m) false)):=by
  intro d
  induction d with
  |zero=>
   intro i hi
   have:i=m:=by omega
   subst this
   by_cases hs:(S i).size≤3
   · have hv : J5 (B i) (S i) = false := by
       cases hv:J5 (B i) (S i)with
       |false=>rfl
       |true=>exact absurd ⟨hs,hv⟩ hb
     exact okR (zu8 B S _ i hm) ((z7A hm).app (.cons (decide_eq_false (by omega)) (.cons ((J6 _ _).eqB hv) (.cons (Nat.le_refl _) .nil)))) rfl
   · exact okR (zu0 B S _ i hm) ((z7A hm).app (.cons (decide_eq_true (by omega)) (.cons (Nat.le_refl _) .nil))) rfl
  |succ d ih=>
   intro i hi
   exact z4v hn i (by omega) (hall i (by omega)) (ih (i+1) (by omega))
 exact key m 0 (by omega)
end
theorem zoJ(W:Nat→Int)(a b i:Int)(h1:(b != 0)=true)(o1:b≠0){R:Goal}(hn:j7 R.n [0]=true)(hR:Ok P 192 (loopHead P 192 1) ⟨J1 28 [(1,.ptr 0 0),(4,.cv (.lit (.int .i64 i))),(5,.cv (.lit (.int .i64 b))),(6,.cv (.lit (.int .i64 (a.tmod b))))],[some (own [.lit (.int .i64 (W 0)),.lit (.int .i64 (W 1)),.lit (.int .i64 (W 2)),.lit (.int .i64 (W 3)),.lit (.int .i64 (W 4))])]⟩ R):Ok P 192 (loopHead P 192 1) ⟨J1 28 [(1,.ptr 0 0),(4,.cv (j5 i)),(5,.cv (j5 a)),(6,.cv (j5 b))],[some (own (i5 W))]⟩ R:=
 z07 (keep:=[1,4,5,6]) (σ:=[0]) (.b 3 h1 (.c o1 (.o 10 .stop .nil))) (by kernel_rfl) rfl hn hR (.cons (J0 _) .nil)
theorem zpk(W:Nat→Int)(a b i:Int)(h1:(b != 0)=false){R:Goal}(hn:j7 R.n [0]=true)(hR:Ok P 192 (loopHead P 192 0) ⟨J1 28 [(1,.ptr 0 0),(3,.cv (.lit (.int .i64 a))),(4,.cv (.lit (.int .i64 (i64.wrap (i+1)))))],[some (own [.lit (.int .i64 (W 0)),.lit (.int .i64 (W 1)),.lit (.int .i64 (W 2)),.lit (.int .i64 (W 3)),.lit (.int .i64 (W 4))])]⟩ R):Ok P 192 (loopHead P 192 1) ⟨J1 28 [(1,.ptr 0 0),(4,.cv (j5 i)),(5,.cv (j5 a)),(6,.cv (j5 b))],[some (own (i5 W))]⟩ R:=
 z07 (keep:=[1,3,4]) (σ:=[0]) (.b 3 h1 (.o 9 .stop .nil)) (by kernel_rfl) rfl hn hR (.cons (J0 _) .nil)
def bor(x y c:Int):Int:=if x<y+c then 1 else 0
theorem zey(x y c:Int)(hx:0≤x∧x<4294967296)(hy:0≤y∧y<4294967296)(hc:0≤c∧c≤1):PCall P 257 [.lit (.int .u32 x),.lit (.int .u32 y),.lit (.int .u32 c)] (.tup [.lit (.int .u32 ((x-y-c)%4294967296)),.lit (.int .u32 (bor x y c))]):=by
 have h:=z4u x.toNat y.toNat c.toNat (by simp only[B32];omega) (by simp only[B32];omega) (by omega)
 obtain⟨x,rfl⟩: ∃n:Nat,x=n:=⟨x.toNat,by omega⟩
 obtain⟨y,rfl⟩: ∃n:Nat,y=n:=⟨y.toNat,by omega⟩
 obtain⟨c,rfl⟩: ∃n:Nat,c=n:=⟨c.toNat,by omega⟩
 simp only[Int.toNat_natCast]at h
 refine h.eq (z5T ?_ ?_)
 · simp only[B32];omega
 · unfold bor
   split<;>split<;>first|rfl|omega
theorem zoK(x y c:Int)(hx:0≤x∧x<4294967296)(hy:0≤y∧y<4294967296)(hc:0≤c∧c≤1):PCall P 255 [.lit (.int .u32 x),.lit (.int .u32 y),.lit (.int .u32 c)] (.tup [.lit (.int .u32 ((x+y+c)%4294967296)),.lit (.int .u32 ((x+y+c)/4294967296))]):=by
 have h:=z1k x.toNat y.toNat c.toNat (by simp only[B32];omega) (by simp only[B32];omega) (by omega)
 obtain⟨x,rfl⟩: ∃n:Nat,x=n:=⟨x.toNat,by omega⟩
 obtain⟨y,rfl⟩: ∃n:Nat,y=n:=⟨y.toNat,by omega⟩
 obtain⟨c,rfl⟩: ∃n:Nat,c=n:=⟨c.toNat,by omega⟩
 simp only[Int.toNat_natCast]at h
 refine h.eq (z5T ?_ ?_)
 · simp only[B32];omega
 · simp only[B32];omega
theorem zdQ(j n:Nat)(zs ys:List Nat)(o0:(0:Int)≤n∧(n:Int)<(↑(n+1):Int))(o1:(own (j8 zs))[j+(n:Int).toNat*1]?=some (.cv (.lit (.int .u32 ↑(zs.getD (j+(n:Int).toNat*1) 0)))))(o4:(0:Int)≤i64.wrap ((n:Int)-1)∧i64.wrap ((n:Int)-1)<(↑(n+1):Int))(o5:(own (j8 zs))[j+(i64.wrap ((n:Int)-1)).toNat*1]?=some (.cv (.lit (.int .u32 (↑(zs.getD (j+(i64.wrap ((n:Int)-1)).toNat*1) 0):Int)))))(o7:(0:Int)≤i64.wrap ((n:Int)-1)∧i64.wrap ((n:Int)-1)<(n:Int))(o8:(j8 ys)[(i64.wrap ((n:Int)-1)).toNat*1]?=some (.lit (.int .u32 (↑(ys.getD ((i64.wrap ((n:Int)-1)).toNat*1) 0):Int))))(o10:u64.wrap (↑(ys.getD ((i64.wrap ((n:Int)-1)).toNat*1) 0):Int)≠0)(o11:(0:Int)≤i64.wrap ((n:Int)-1)∧i64.wrap ((n:Int)-1)<(n:Int))(o12:(j8 ys)[(i64.wrap ((n:Int)-1)).toNat*1]?=some (.lit (.int .u32 (↑(ys.getD ((i64.wrap ((n:Int)-1)).toNat*1) 0):Int))))(o14:u64.wrap (↑(ys.getD ((i64.wrap ((n:Int)-1)).toNat*1) 0):Int)≠0)(o15:CvL (own (j8 zs))){Q:MV→List Blk→Prop}(hR:Ok P 264 (loopHead P 264 0) ⟨J1 159 [(0,.sl 0 j (n+1) 1),(1,.cv (.lst n (j8 ys))),(5,.cv (.lit (.int .i64 (n:Int)))),(7,.cv (.lit (.int .u64 (u64.wrap ((X9 BinOp.or u64 (u64.wrap (u64.wrap (↑(zs.getD (j+(n:Int).toNat*1) 0):Int)*4294967296)) (u64.wrap (↑(zs.getD (j+(i64.wrap ((n:Int)-1)).toNat*1) 0):Int))).tdiv (u64.wrap (↑(ys.getD ((i64.wrap ((n:Int)-1)).toNat*1) 0):Int))))))),(8,.cv (.lit (.int .u64 ((X9 BinOp.or u64 (u64.wrap (u64.wrap (↑(zs.getD (j+(n:Int).toNat*1) 0):Int)*4294967296)) (u64.wrap (↑(zs.getD (j+(i64.wrap ((n:Int)-1)).toNat*1) 0):Int))).tmod (u64.wrap (↑(ys.getD ((i64.wrap ((n:Int)-1)).toNat*1) 0):Int))))))],[some (own (j8 zs))]⟩ (.lent [some (own (j8 zs))].length Q)):z3m P 264 [some (own (j8 zs))] [.sl 0 j (n+1) 1,.cv (.lst n (j8 ys))] Q:=
 z90 (keep:=[0,1,5,7,8]) (σ:=[0]) (ors:=[(7,.e (.cv (.lit (.int .u32 ↑(zs.getD (j+(n:Int).toNat*1) 0))))),(14,.e (.cv (.lit (.int .u32 (↑(zs.getD (j+(i64.wrap ((n:Int)-1)).toNat*1) 0):Int))))),(23,.r (.lit (.int .u32 (↑(ys.getD ((i64.wrap ((n:Int)-1)).toNat*1) 0):Int)))),(31,.r (.lit (.int .u32 (↑(ys.getD ((i64.wrap ((n:Int)-1)).toNat*1) 0):Int)))),(36,.stop)]) (by kernel_rfl) rfl (.cons o0 (.cons o1 (.cons (eqn 1) (.cons (nn 32) (.cons o4 (.cons o5 (.cons (eqn 1) (.cons o7 (.cons o8 (.cons (eqn 1) (.cons o10 (.cons o11 (.cons o12 (.cons (eqn 1) (.cons o14 (.cons o15 .nil)))))))))))))))) rfl hR
theorem zed(j n q r:Nat)(zs ys:List Nat)(h1:decide ((q:Int)≥4294967296)=true)(h2:decide (u64.wrap ((r:Int)+u64.wrap (↑(ys.getD ((i64.wrap ((n:Int)-1)).toNat*1) 0):Int))≥4294967296)=true)(o1:(0:Int)≤i64.wrap ((n:Int)-1)∧i64.wrap ((n:Int)-1)<(n:Int))(o2:(j8 ys)[(i64.wrap ((n:Int)-1)).toNat*1]?=some (.lit (.int .u32 (↑(ys.getD ((i64.wrap ((n:Int)-1)).toNat*1) 0):Int))))(o5:CvL (own (j8 zs))){R:Goal}(hn:j7 R.n [0]=true)(hR:Ok P 264 (loopHead P 264 1) ⟨J1 159 [(0,.sl 0 j (n+1) 1),(1,.cv (.lst n (j8 ys))),(5,.cv (.lit (.int .i64 (n:Int)))),(7,.cv (.lit (.int .u64 (u64.wrap ((q:Int)-1))))),(9,.cv (.lit (.int .u64 0))),(10,.cv (.lit (.int .u32 0))),(81,.cv (.lst n (j8 ys))),(82,.cv (.lit (.int .i64 (n:Int)))),(83,.cv (.lit (.int .i64 0)))],[some (own (j8 zs))]⟩ R):Ok P 264 (loopHead P 264 0) ⟨J1 159 [(0,.sl 0 j (n+1) 1),(1,.cv (.lst n (j8 ys))),(5,.cv (.lit (.int .i64 (n:Int)))),(7,.cv (.lit (.int .u64 (q:Int)))),(8,.cv (.lit (.int .u64 (r:Int))))],[some (own (j8 zs))]⟩ R:=
 z1z (m:=1) (keep:=[0,1,5,7,9,10,81,82,83]) (σ:=[0]) (.b 3 h1 (.c o1 (.l 32 o2 (.c (eqn 1) (.b 38 h2 (.o 44 .stop .nil)))))) (by kernel_rfl) rfl hn hR (.cons o5 .nil)
theorem zeN(j n q r:Nat)(zs ys:List Nat)(h1:decide ((q:Int)≥4294967296)=true)(h2:decide (u64.wrap ((r:Int)+u64.wrap (↑(ys.getD ((i64.wrap ((n:Int)-1)).toNat*1) 0):Int))≥4294967296)=false)(o1:(0:Int)≤i64.wrap ((n:Int)-1)∧i64.wrap ((n:Int)-1)<(n:Int))(o2:(j8 ys)[(i64.wrap ((n:Int)-1)).toNat*1]?=some (.lit (.int .u32 (↑(ys.getD ((i64.wrap ((n:Int)-1)).toNat*1) 0):Int))))(o5:CvL (own (j8 zs))){R:Goal}(hn:j7 R.n [0]=true)(hR:Ok P 264 (loopHead P 264 0) ⟨J1 159 [(0,.sl 0 j (n+1) 1),(1,.cv (.lst n (j8 ys))),(5,.cv (.lit (.int .i64 (n:Int)))),(7,.cv (.lit (.int .u64 (u64.wrap ((q:Int)-1))))),(8,.cv (.lit (.int .u64 (u64.wrap ((r:Int)+u64.wrap (↑(ys.getD ((i64.wrap ((n:Int)-1)).toNat*1) 0):Int))))))],[some (own (j8 zs))]⟩ R):Ok P 264 (loopHead P 264 0) ⟨J1 159 [(0,.sl 0 j (n+1) 1),(1,.cv (.lst n (j8 ys))),(5,.cv (.lit (.int .i64 (n:Int)))),(7,.cv (.lit (.int .u64 (q:Int)))),(8,.cv (.lit (.int .u64 (r:Int))))],[some (own (j8 zs))]⟩ R:=
 z1z (m:=1) (keep:=[0,1,5,7,8]) (σ:=[0]) (.b 3 h1 (.c o1 (.l 32 o2 (.c (eqn 1) (.b 38 h2 (.o 39 .stop .nil)))))) (by kernel_rfl) rfl hn hR (.cons o5 .nil)
theorem zf2(j n q r:Nat)(zs ys:List Nat)(h1:decide ((q:Int)≥4294967296)=false)(h2:decide (u64.wrap ((q:Int)*u64.wrap (↑(ys.getD ((i64.wrap ((n:Int)-2)).toNat*1) 0):Int))>X9 BinOp.or u64 (u64.wrap ((r:Int)*2^min (Int.toNat (32:Int)) u64.bits)) (u64.wrap (↑(zs.getD (j+(i64.wrap ((n:Int)-2)).toNat*1) 0):Int)))=true)(h3:decide (u64.wrap ((r:Int)+u64.wrap (↑(ys.getD ((i64.wrap ((n:Int)-1)).toNat*1) 0):Int))≥4294967296)=true)(o1:(0:Int)≤i64.wrap ((n:Int)-2)∧i64.wrap ((n:Int)-2)<(n:Int))(o2:(j8 ys)[(i64.wrap ((n:Int)-2)).toNat*1]?=some (.lit (.int .u32 (↑(ys.getD ((i64.wrap ((n:Int)-2)).toNat*1) 0):Int))))(o5:(0:Int)≤i64.wrap ((n:Int)-2)∧i64.wrap ((n:Int)-2)<(↑(n+1):Int))(o6:(own (j8 zs))[j+(i64.wrap ((n:Int)-2)).toNat*1]?=some (.cv (.lit (.int .u32 (↑(zs.getD (j+(i64.wrap ((n:Int)-2)).toNat*1) 0):Int)))))(o9:(0:Int)≤i64.wrap ((n:Int)-1)∧i64.wrap ((n:Int)-1)<(n:Int))(o10:(j8 ys)[(i64.wrap ((n:Int)-1)).toNat*1]?=some (.lit (.int .u32 (↑(ys.getD ((i64.wrap ((n:Int)-1)).toNat*1) 0):Int))))(o13:CvL (own (j8 zs))){R:Goal}(hn:j7 R.n [0]=true)(hR:Ok P 264 (loopHead P 264 1) ⟨J1 159 [(0,.sl 0 j (n+1) 1),(1,.cv (.lst n (j8 ys))),(5,.cv (.lit (.int .i64 (n:Int)))),(7,.cv (.lit (.int .u64 (u64.wrap ((q:Int)-1))))),(9,.cv (.lit (.int .u64 0))),(10,.cv (.lit (.int .u32 0))),(81,.cv (.lst n (j8 ys))),(82,.cv (.lit (.int .i64 (n:Int)))),(83,.cv (.lit (.int .i64 0)))],[some (own (j8 zs))]⟩ R):Ok P 264 (loopHead P 264 0) ⟨J1 159 [(0,.sl 0 j (n+1) 1),(1,.cv (.lst n (j8 ys))),(5,.cv (.lit (.int .i64 (n:Int)))),(7,.cv (.lit (.int .u64 (q:Int)))),(8,.cv (.lit (.int .u64 (r:Int))))],[some (own (j8 zs))]⟩ R:=
 z1z (m:=1) (keep:=[0,1,5,7,9,10,81,82,83]) (σ:=[0]) (.b 3 h1 (.c o1 (.l 9 o2 (.c (eqn 1) (.c (nn 32) (.c o5 (.e 18 o6 (.c (eqn 1) (.b 23 h2 (.c o9 (.l 32 o10 (.c (eqn 1) (.b 38 h3 (.o 44 .stop .nil)))))))))))))) (by kernel_rfl) rfl hn hR (.cons o13 .nil)
theorem zeQ(j n q r:Nat)(zs ys:List Nat)(h1:decide ((q:Int)≥4294967296)=false)(h2:decide (u64.wrap ((q:Int)*u64.wrap (↑(ys.getD ((i64.wrap ((n:Int)-2)).toNat*1) 0):Int))>X9 BinOp.or u64 (u64.wrap ((r:Int)*2^min (Int.toNat (32:Int)) u64.bits)) (u64.wrap (↑(zs.getD (j+(i64.wrap ((n:Int)-2)).toNat*1) 0):Int)))=true)(h3:decide (u64.wrap ((r:Int)+u64.wrap (↑(ys.getD ((i64.wrap ((n:Int)-1)).toNat*1) 0):Int))≥4294967296)=false)(o1:(0:Int)≤i64.wrap ((n:Int)-2)∧i64.wrap ((n:Int)-2)<(n:Int))(o2:(j8 ys)[(i64.wrap ((n:Int)-2)).toNat*1]?=some (.lit (.int .u32 (↑(ys.getD ((i64.wrap ((n:Int)-2)).toNat*1) 0):Int))))(o5:(0:Int)≤i64.wrap ((n:Int)-2)∧i64.wrap ((n:Int)-2)<(↑(n+1):Int))(o6:(own (j8 zs))[j+(i64.wrap ((n:Int)-2)).toNat*1]?=some (.cv (.lit (.int .u32 (↑(zs.getD (j+(i64.wrap ((n:Int)-2)).toNat*1) 0):Int)))))(o9:(0:Int)≤i64.wrap ((n:Int)-1)∧i64.wrap ((n:Int)-1)<(n:Int))(o10:(j8 ys)[(i64.wrap ((n:Int)-1)).toNat*1]?=some (.lit (.int .u32 (↑(ys.getD ((i64.wrap ((n:Int)-1)).toNat*1) 0):Int))))(o13:CvL (own (j8 zs))){R:Goal}(hn:j7 R.n [0]=true)(hR:Ok P 264 (loopHead P 264 0) ⟨J1 159 [(0,.sl 0 j (n+1) 1),(1,.cv (.lst n (j8 ys))),(5,.cv (.lit (.int .i64 (n:Int)))),(7,.cv (.lit (.int .u64 (u64.wrap ((q:Int)-1))))),(8,.cv (.lit (.int .u64 (u64.wrap ((r:Int)+u64.wrap (↑(ys.getD ((i64.wrap ((n:Int)-1)).toNat*1) 0):Int))))))],[some (own (j8 zs))]⟩ R):Ok P 264 (loopHead P 264 0) ⟨J1 159 [(0,.sl 0 j (n+1) 1),(1,.cv (.lst n (j8 ys))),(5,.cv (.lit (.int .i64 (n:Int)))),(7,.cv (.lit (.int .u64 (q:Int)))),(8,.cv (.lit (.int .u64 (r:Int))))],[some (own (j8 zs))]⟩ R:=
 z1z (m:=1) (keep:=[0,1,5,7,8]) (σ:=[0]) (.b 3 h1 (.c o1 (.l 9 o2 (.c (eqn 1) (.c (nn 32) (.c o5 (.e 18 o6 (.c (eqn 1) (.b 23 h2 (.c o9 (.l 32 o10 (.c (eqn 1) (.b 38 h3 (.o 39 .stop .nil)))))))))))))) (by kernel_rfl) rfl hn hR (.cons o13 .nil)
theorem zf5(j n q r:Nat)(zs ys:List Nat)(h1:decide ((q:Int)≥4294967296)=false)(h2:decide (u64.wrap ((q:Int)*u64.wrap (↑(ys.getD ((i64.wrap ((n:Int)-2)).toNat*1) 0):Int))>X9 BinOp.or u64 (u64.wrap ((r:Int)*2^min (Int.toNat (32:Int)) u64.bits)) (u64.wrap (↑(zs.getD (j+(i64.wrap ((n:Int)-2)).toNat*1) 0):Int)))=false)(o1:(0:Int)≤i64.wrap ((n:Int)-2)∧i64.wrap ((n:Int)-2)<(n:Int))(o2:(j8 ys)[(i64.wrap ((n:Int)-2)).toNat*1]?=some (.lit (.int .u32 (↑(ys.getD ((i64.wrap ((n:Int)-2)).toNat*1) 0):Int))))(o5:(0:Int)≤i64.wrap ((n:Int)-2)∧i64.wrap ((n:Int)-2)<(↑(n+1):Int))(o6:(own (j8 zs))[j+(i64.wrap ((n:Int)-2)).toNat*1]?=some (.cv (.lit (.int .u32 (↑(zs.getD (j+(i64.wrap ((n:Int)-2)).toNat*1) 0):Int)))))(o9:CvL (own (j8 zs))){R:Goal}(hn:j7 R.n [0]=true)(hR:Ok P 264 (loopHead P 264 1) ⟨J1 159 [(0,.sl 0 j (n+1) 1),(1,.cv (.lst n (j8 ys))),(5,.cv (.lit (.int .i64 (n:Int)))),(7,.cv (.lit (.int .u64 (q:Int)))),(9,.cv (.lit (.int .u64 0))),(10,.cv (.lit (.int .u32 0))),(81,.cv (.lst n (j8 ys))),(82,.cv (.lit (.int .i64 (n:Int)))),(83,.cv (.lit (.int .i64 0)))],[some (own (j8 zs))]⟩ R):Ok P 264 (loopHead P 264 0) ⟨J1 159 [(0,.sl 0 j (n+1) 1),(1,.cv (.lst n (j8 ys))),(5,.cv (.lit (.int .i64 (n:Int)))),(7,.cv (.lit (.int .u64 (q:Int)))),(8,.cv (.lit (.int .u64 (r:Int))))],[some (own (j8 zs))]⟩ R:=
 z1z (m:=1) (keep:=[0,1,5,7,9,10,81,82,83]) (σ:=[0]) (.b 3 h1 (.c o1 (.l 9 o2 (.c (eqn 1) (.c (nn 32) (.c o5 (.e 18 o6 (.c (eqn 1) (.b 23 h2 (.o 29 .stop .nil)))))))))) (by kernel_rfl) rfl hn hR (.cons o9 .nil)
end Go.Fw
