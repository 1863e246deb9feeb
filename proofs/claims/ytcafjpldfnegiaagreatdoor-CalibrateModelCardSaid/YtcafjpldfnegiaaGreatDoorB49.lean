/- A part of the proof that the law returns true for every input: an executor for the model's code, and what functions of the program compute. -/
import Derived.Test.YtcafjpldfnegiaaGreatDoorB11
import Derived.Test.YtcafjpldfnegiaaGreatDoorB15
import Derived.Test.YtcafjpldfnegiaaGreatDoorB42
import Derived.Test.YtcafjpldfnegiaaGreatDoorB44
import Derived.Test.YtcafjpldfnegiaaGreatDoorB46
import Derived.Test.YtcafjpldfnegiaaGreatDoorB47
import Derived.Test.YtcafjpldfnegiaaGreatDoorB48
import Derived.KernelRfl
open Go IntKind
namespace Go.Fw
set_option maxRecDepth 100000
theorem zat{m n:Nat}(h:m<8*n):By n ((2:Int)^m):=by
 unfold By
 rw[Int.natAbs_pow,show(2:Int).natAbs=2 from rfl,show(256:Nat)=2^8 from rfl,←Nat.pow_mul]
 exact Nat.pow_lt_pow_right (by decide) h
theorem zt4(k:Nat)(hk:k≤100):PCall P 228 [J2 2,j5 k] (.tup [J2 (2^k),j5 0]):=by
 have key : ∀ (f : Nat) (i : Nat), i + f = k → Ok P 228 (loopHead P 228 0) ⟨J1 37 [(1, .cv (j5 k)), (2, .ptr 0 0), (4, .ptr 1 0), (6, .ptr 2 0), (7, .cv (j5 i))], [some (iB 2), some (iB 0), some (iB (2 ^ i))]⟩ (.of (· = .tup [J2 (2 ^ k), j5 0])) := by
  intro f
  induction f with
  |zero=>
   intro i hi
   obtain rfl:i=k:=by omega
   exact znC 2 (2^i) i i (decide_eq_false (by omega)) rfl
  |succ f ih=>
   intro i hi
   refine znY 2 (2^i) k i (decide_eq_true (by omega)) ⟨100,by decide,?_,(show By 1 2 from(by decide:(2:Int).natAbs<256^1)).mono (by decide)⟩ rfl ?_
   · exact zat (by omega)
   · rw[w64 (by omega),show((i:Int)+1)=((i+1:Nat):Int) by omega,←Int.pow_succ]
     exact ih (i+1) (by omega)
 refine Y6 (zqW 2 k (decide_eq_false (by omega)) (decide_eq_false (by omega)) ?_ (by decide) (key k 0 (by omega)))
 refine decide_eq_false ?_
 have:(bytesOf (2:Int).natAbs).size≤1:=by rw[z0p];exact Q1 (by decide) (by decide)
 omega
theorem zfi(a b:Int)(ha:Sml a.natAbs)(hb:Sml b.natAbs)(hb0:0<b):PCall P 233 [J2 a,J2 b] (.tup [J2 (a.fdiv b),J2 (a.fmod b),j5 0]):=by
 rw[Int.fdiv_eq_ediv_of_nonneg _ (by omega),Int.fmod_eq_emod_of_nonneg _ (by omega)]
 by_cases hd:b∣a
 · rw[Int.emod_eq_zero_of_dvd hd]
   exact z7Z a b ha hb (by omega) hd
 have g0:((bytesOf b.natAbs).toList==[])=false:=by rw[Q3];exact decide_eq_false (by omega)
 have hr:a.natAbs%b.natAbs≠0:=fun e=>hd (Int.natAbs_dvd_natAbs.1 (Nat.dvd_of_mod_eq_zero e))
 have hmod:a%b≠0:=fun e=>hd (Int.dvd_of_emod_eq_zero e)
 have f2:decide (b<0)=false:=decide_eq_false (by omega)
 have e1:=Int.emod_add_mul_ediv a b
 have e2:=Int.emod_nonneg a (show b≠0 by omega)
 have e3:=Int.emod_lt_of_pos a hb0
 have sz7: ∀z:Int,decide (((bytesOf z.natAbs).size:Int)≤7)=decide (z.natAbs<256^7):=fun z=>by
  have h1:(bytesOf z.natAbs).size≤7↔z.natAbs<256^7:=by
   rw[z0p]
   exact⟨fun h=>Nat.lt_of_lt_of_le (J8 (by decide) _) (Nat.pow_le_pow_right (by decide) h),fun h=>Q1 (by decide) h⟩
  rw[decide_eq_decide]
  omega
 have hq:(0≤a→(a.natAbs/b.natAbs:Nat)=a/b∧(a.natAbs%b.natAbs:Nat)=a%b)∧(a<0→ -((a.natAbs/b.natAbs:Nat):Int)-1=a/b∧(b:Int)-(a.natAbs%b.natAbs:Nat)=a%b):=by
  have d1:=Nat.div_add_mod a.natAbs b.natAbs
  have d2:=Nat.mod_lt a.natAbs (show b.natAbs>0 by omega)
  have d3:b*((a.natAbs/b.natAbs:Nat):Int)+((a.natAbs%b.natAbs:Nat):Int)=a.natAbs:=by
   have:(b.natAbs:Int)=b:=by omega
   rw[←this,←Int.natCast_mul,←Int.natCast_add,this,d1]
  refine⟨fun h=>?_,fun h=>?_⟩
  · have r1:a=((a.natAbs%b.natAbs:Nat):Int)+b*((a.natAbs/b.natAbs:Nat):Int):=by omega
    constructor
    · conv=>rhs;rw[r1]
      rw[Int.add_mul_ediv_left _ _ (by omega),Int.ediv_eq_zero_of_lt (by omega) (by omega),Int.zero_add]
    · conv=>rhs;rw[r1]
      rw[Int.add_mul_emod_self_left,Int.emod_eq_of_lt (by omega) (by omega)]
  · have r1:a=(b-((a.natAbs%b.natAbs:Nat):Int))+b*(-((a.natAbs/b.natAbs:Nat):Int)-1):=by rw[Int.mul_sub,Int.mul_neg,Int.mul_one];omega
    constructor
    · conv=>rhs;rw[r1]
      rw[Int.add_mul_ediv_left _ _ (by omega),Int.ediv_eq_zero_of_lt (by omega) (by omega),Int.zero_add]
    · conv=>rhs;rw[r1]
      rw[Int.add_mul_emod_self_left,Int.emod_eq_of_lt (by omega) (by omega)]
 have td:a.tdiv b=(if 0≤a then a/b else a/b+1):=by
  rw[Int.tdiv_eq_ediv]
  by_cases h:0≤a
  · rw[if_pos h,if_pos (.inl h),Int.add_zero]
  · rw[if_neg h,if_neg (by rintro(k|k);exact h k;exact hd k),Int.sign_eq_one_of_pos hb0]
 have tm:a.tmod b=(if 0≤a then a%b else a%b-b):=by
  rw[Int.tmod_eq_emod]
  by_cases h:0≤a
  · rw[if_pos h,if_pos (.inl h)];exact Int.sub_zero _
  · rw[if_neg h,if_neg (by rintro(k|k);exact h k;exact hd k)];omega
 have g3:decide ((((dig B24 (a.natAbs%b.natAbs)).length:Nat):Int)>0)=true:=by
  refine decide_eq_true ?_
  have:(dig B24 (a.natAbs%b.natAbs)).length≠0:=fun e=>hr ((Y1 (by decide:2≤B24)).1 e)
  omega
 have l1:=ha.dig24
 have l2:=hb.dig24
 have hmlt:=Nat.mod_lt a.natAbs (show b.natAbs>0 by omega)
 have l3:=(ha.mono (Nat.div_le_self a.natAbs b.natAbs)).dig24
 have l4:=(hb.mono (show a.natAbs%b.natAbs≤b.natAbs by omega)).dig24
 have l5:=(hb.mono (Nat.sub_le b.natAbs (a.natAbs%b.natAbs))).dig24
 have l6:(dig B24 (a.natAbs/b.natAbs+1)).length<2^40:=z2n ha (by have:=Nat.div_le_self a.natAbs b.natAbs;omega)
 simp only[B24]at l1 l2 l3 l4 l5 l6
 have nq: -((a.natAbs/b.natAbs:Nat):Int)-1= -((a.natAbs/b.natAbs+1:Nat):Int):=by
  generalize a.natAbs/b.natAbs=z;omega
 have nr:b-((a.natAbs%b.natAbs:Nat):Int)=((b.natAbs-a.natAbs%b.natAbs:Nat):Int):=by omega
 by_cases sa:a.natAbs<256^7
 · have n7:(256:Nat)^7=72057594037927936:=by decide
   by_cases sb:b.natAbs<256^7
   · have g1:decide (((bytesOf b.natAbs).size:Int)≤7)=true:=by rw[sz7];exact decide_eq_true sb
     have bq: -72057594037927936≤a/b∧a/b≤72057594037927936:=by
      obtain⟨q1,q2⟩:=hq
      have:=Nat.div_le_self a.natAbs b.natAbs
      generalize a.natAbs/b.natAbs=z at*
      rcases Int.lt_or_le a 0 with h|h
      · have:=(q2 h).1;omega
      · have:=(q1 h).1;omega
     by_cases h:0≤a
     · rw[if_pos h]at td tm
       have w1:i64.wrap (a.tdiv b)=a/b:=by rw[td,w64 (by omega)]
       have m1:a/b*b=a-a%b:=by rw[Int.mul_comm];omega
       have w2:i64.wrap (a-i64.wrap (a/b*b))=a%b:=by rw[w64 (n:=a/b*b) (by omega),w64 (by omega)];omega
       have key:=zkA a b g0 g1 (by rw[tm];exact bne_iff_ne.2 hmod) (by rw[decide_eq_false (by omega),f2];rfl) sa sb (by rw[w1];omega) (by rw[w1,w2];omega) (by omega) (by omega)
       rw[w1,w2]at key
       exact key
     · rw[if_neg h]at td tm
       have w1:i64.wrap (i64.wrap (a.tdiv b)-1)=a/b:=by rw[td,w64 (n:=a/b+1) (by omega),w64 (by omega)];omega
       have m1:a/b*b=a-a%b:=by rw[Int.mul_comm];omega
       have w2:i64.wrap (a-i64.wrap (a/b*b))=a%b:=by rw[w64 (n:=a/b*b) (by omega),w64 (by omega)];omega
       have key:=zl3 a b g0 g1 (by rw[tm];exact bne_iff_ne.2 (by omega)) (by rw[decide_eq_true (by omega),f2];rfl) sa sb (by rw[w1];omega) (by rw[w1,w2];omega) (by omega) (by omega)
       rw[w1,w2]at key
       exact key
   · have g1:decide (((bytesOf b.natAbs).size:Int)≤7)=false:=by rw[sz7];exact decide_eq_false sb
     by_cases h:0≤a
     · have key:=zlr a b g0 g1 g3 (by rw[decide_eq_false (by omega),f2];rfl) sa ha hb (by omega) (by omega) (by omega) (by omega) (by omega)
       rw[decide_eq_false (p:=a<0) (by omega),f2]at key
       rw[←(hq.1 h).1,←(hq.1 h).2]
       exact key
     · have key:=ziS a b g0 g1 g3 (by rw[decide_eq_true (by omega),f2];rfl) sa ha hb (by omega) (by omega) (by omega) (by omega) hb (by omega) (by omega) (by omega) (by omega)
       rw[decide_eq_true (p:=a<0) (by omega),f2]at key
       rw[←(hq.2 (by omega)).1,←(hq.2 (by omega)).2,nq,nr]
       exact key
 · by_cases h:0≤a
   · have key:=zmv a b g0 g3 (by rw[decide_eq_false (by omega),f2];rfl) (by omega) ha hb (by omega) (by omega) (by omega) (by omega) (by omega)
     rw[decide_eq_false (p:=a<0) (by omega),f2]at key
     rw[←(hq.1 h).1,←(hq.1 h).2]
     exact key
   · have key:=zjR a b g0 g3 (by rw[decide_eq_true (by omega),f2];rfl) (by omega) ha hb (by omega) (by omega) (by omega) (by omega) hb (by omega) (by omega) (by omega) (by omega)
     rw[decide_eq_true (p:=a<0) (by omega),f2]at key
     rw[←(hq.2 (by omega)).1,←(hq.2 (by omega)).2,nq,nr]
     exact key
theorem zpB(a b:Int)(d:Sml a.natAbs)(e:Sml b.natAbs)(f:(0:Int)<b):PCall P 185 [J2 a,J2 b] ((J2 (a.fdiv b))):=
 j3 (.r 5 (zfi a b d e f) (.c (lq 2 2) (.c (lq 2 2) (.c (lq 2 2) .nil)))) (by kernel_rfl)
theorem z2R(a b:Int)(h:Two a b)(hb0:0<b):PCall P 185 [J2 a,J2 b] (J2 (a.fdiv b)):=by
 obtain⟨n,hn,ha,hb⟩:=h
 exact zpB a b (ha.sml (by omega)) (hb.sml (by omega)) hb0
theorem zqq(k:Int)(h:0≤k∧k≤100):PCall P 228 [.agg [.lit (.bool false),X1 (bytesOf 2)],j5 k] (.tup [J2 (2^k.toNat),j5 0]):=by
 have:=zt4 k.toNat (by omega)
 rwa[show((k.toNat:Nat):Int)=k by omega]at this
theorem zis(x:K)(h:x.sz≤1000000):PCall P 219 [Z0 x] (.lit (.bool (zkk x))):=by rw[←z5N];exact znV x h
theorem zpy(x:K)(g:zkk x=true)(a e:x.sz≤1000000)(f:Two x.c0 x.d)(i:(0:Int)<x.d):PCall P 180 [Z0 x] ((J2 (x.c0.fdiv x.d))):=
 j3 (.r 3 (z16 x a) (.r 7 ((zis x e).eqB g) (.c (bq 0 4) (.r 14 (z2R x.c0 x.d f i) (.c (lq 2 2) .nil))))) (by kernel_rfl)
theorem zq8(x:K)(g:zkk x=false)(a c:x.sz≤1000000){R:CV→Prop}(hR:Ok P 180 (loopHead P 180 0) ⟨J1 111 [(1,.ptr 0 0),(2,.ptr (0+1) 0),(3,.cv (.lit (.int .i64 8)))],[some (kBl x),some (iB 0)]⟩ (.of R)):Y3 P 180 [Z0 x] R:=
 Z6 (keep:=[1,2,3]) (σ:=[0,1]) (.r 3 (z16 x a) (.r 7 ((zis x c).eqB g) (.o 10 .stop .nil))) (by kernel_rfl) rfl hR (.cons (z3u x) (.cons (V0 0) .nil))
theorem zi7(x:K)(b:Int)(a:(-9223372036854775808:Int)≤2∧(2:Int)≤9223372036854775807)(d:((0:Int)≤if(50:Int)<b then(50:Int)else b)∧(if(50:Int)<b then(50:Int)else b)≤100){R:Goal}(hn:j7 R.n [0,1,4]=true)(hR:Ok P 180 (loopHead P 180 1) ⟨J1 111 [(1,.ptr 0 0),(2,.ptr (0+1) 0),(3,.cv (.lit (.int .i64 b))),(4,.ptr (0+1+1) 0),(6,.cv (.lit (.int .i64 50)))],[some (kBl x),some (iB 0),some (iB ((2:Int)^(if(50:Int)<b then(50:Int)else b).toNat))]⟩ R):Ok P 180 (loopHead P 180 0) ⟨J1 111 [(1,.ptr 0 0),(2,.ptr 1 0),(3,.cv (j5 b))],[some (kBl x),some (iB (0:Int))]⟩ R:=
 z07 (keep:=[1,2,3,4,6]) (σ:=[0,1,4]) (.r 1 (Z5 (2:Int) a) (.r 4 (zqq (if(50:Int)<b then(50:Int)else b) d) (.c (lq 2 2) (.o 12 .stop .nil)))) (by kernel_rfl) rfl hn hR (.cons (z3u x) (.cons (V0 0) (.cons (V0 ((2:Int)^(if(50:Int)<b then(50:Int)else b).toNat)) .nil)))
theorem znu(x:K)(b k u:Int)(h1:decide (k<b)=true)(a:Two u u){R:Goal}(hn:j7 R.n [0,1,2]=true)(hR:Ok P 180 (loopHead P 180 1) ⟨J1 111 [(1,.ptr 0 0),(2,.ptr (0+1) 0),(3,.cv (.lit (.int .i64 b))),(4,.ptr (0+1+1) 0),(6,.cv (.lit (.int .i64 (i64.wrap (k+k)))))],[some (kBl x),some (iB 0),some (iB (u*u))]⟩ R):Ok P 180 (loopHead P 180 1) ⟨J1 111 [(1,.ptr 0 0),(2,.ptr 1 0),(3,.cv (j5 b)),(4,.ptr 2 0),(6,.cv (j5 k))],[some (kBl x),some (iB (0:Int)),some (iB u)]⟩ R:=
 z07 (keep:=[1,2,3,4,6]) (σ:=[0,1,2]) (.b 4 h1 (.r 7 (z2A u u a) (.c (lq 2 2) (.o 13 .stop .nil)))) (by kernel_rfl) rfl hn hR (.cons (z3u x) (.cons (V0 0) (.cons (V0 (u*u)) .nil)))
theorem zsd(x:K)(b k u:Int)(h1:decide (k<b)=false)(a:Two u u)(d:Two x.c0 u){R:Goal}(hn:j7 R.n [0,1,2,4,6,7]=true)(hR:Ok P 180 (loopHead P 180 2) ⟨J1 111 [(1,.ptr 0 0),(2,.ptr (0+1) 0),(3,.cv (.lit (.int .i64 b))),(4,.ptr (0+1+1) 0),(7,.ptr (0+1+1+1) 0),(8,.ptr (0+1+1+1+1) 0),(9,.ptr (0+1+1+1+1+1) 0),(10,.cv (.lit (.int .i64 1)))],[some (kBl x),some (iB 0),some (iB u),some (iB (u*u)),some (iB (x.c0*u)),some (iB (x.c0*u))]⟩ R):Ok P 180 (loopHead P 180 1) ⟨J1 111 [(1,.ptr 0 0),(2,.ptr 1 0),(3,.cv (j5 b)),(4,.ptr 2 0),(6,.cv (j5 k))],[some (kBl x),some (iB (0:Int)),some (iB u)]⟩ R:=
 z07 (keep:=[1,2,3,4,7,8,9,10]) (σ:=[0,1,2,4,6,7]) (.b 4 h1 (.r 7 (z2A u u a) (.c (lq 2 2) (.c (bq 0 4) (.r 14 (z2A x.c0 u d) (.c (lq 2 2) (.c (lq 2 2) (.o 21 .stop .nil)))))))) (by kernel_rfl) rfl hn hR (.cons (z3u x) (.cons (V0 0) (.cons (V0 u) (.cons (V0 (u*u)) (.cons (V0 (x.c0*u)) (.cons (V0 (x.c0*u)) .nil))))))
theorem zpP(x:K)(b u q lo hi:Int)(h1:(decide (lo.fdiv (x.d*u)<0)==decide (hi.fdiv (x.d*u)<0)&&(bytesOf (lo.fdiv (x.d*u)).natAbs==bytesOf (hi.fdiv (x.d*u)).natAbs&&true))=true)(a:Two x.d u)(e:Two lo (x.d*u))(f:(0:Int)<x.d*u)(g:Two hi (x.d*u))(i:(0:Int)<x.d*u){R:Goal}(hR:R.c ((J2 (lo.fdiv (x.d*u))))):Ok P 180 (loopHead P 180 2) ⟨J1 111 [(1,.ptr 0 0),(2,.ptr 1 0),(3,.cv (j5 b)),(4,.ptr 2 0),(7,.ptr 3 0),(8,.ptr 4 0),(9,.ptr 5 0),(10,.cv (j5 4))],[some (kBl x),some (iB (0:Int)),some (iB u),some (iB q),some (iB lo),some (iB hi)]⟩ R:=
 okT (.r 7 (z2A x.d u a) (.c (lq 2 2) (.r 12 (z2R lo (x.d*u) e f) (.c (lq 2 2) (.r 18 (z2R hi (x.d*u) g i) (.b 20 h1 (.c (lq 2 2) .nil))))))) (by kernel_rfl) hR
theorem zow(x:K)(b u q lo hi:Int)(h1:(decide (lo.fdiv (x.d*u)<0)==decide (hi.fdiv (x.d*u)<0)&&(bytesOf (lo.fdiv (x.d*u)).natAbs==bytesOf (hi.fdiv (x.d*u)).natAbs&&true))=false)(a:Two x.d u)(e:Two lo (x.d*u))(f:(0:Int)<x.d*u)(g:Two hi (x.d*u))(i:(0:Int)<x.d*u){R:Goal}(hn:j7 R.n [0,1]=true)(hR:Ok P 180 (loopHead P 180 0) ⟨J1 111 [(1,.ptr 0 0),(2,.ptr (0+1) 0),(3,.cv (.lit (.int .i64 (i64.wrap (b*2)))))],[some (kBl x),some (iB 0)]⟩ R):Ok P 180 (loopHead P 180 2) ⟨J1 111 [(1,.ptr 0 0),(2,.ptr 1 0),(3,.cv (j5 b)),(4,.ptr 2 0),(7,.ptr 3 0),(8,.ptr 4 0),(9,.ptr 5 0),(10,.cv (j5 4))],[some (kBl x),some (iB (0:Int)),some (iB u),some (iB q),some (iB lo),some (iB hi)]⟩ R:=
 z07 (keep:=[1,2,3]) (σ:=[0,1]) (.r 7 (z2A x.d u a) (.c (lq 2 2) (.r 12 (z2R lo (x.d*u) e f) (.c (lq 2 2) (.r 18 (z2R hi (x.d*u) g i) (.b 20 h1 (.o 24 .stop .nil))))))) (by kernel_rfl) rfl hn hR (.cons (z3u x) (.cons (V0 0) .nil))
noncomputable def stI(x:K)(b u lo hi i:Int):St:=⟨J1 111 [(1,.ptr 0 0),(2,.ptr 1 0),(3,.cv (j5 b)),(4,.ptr 2 0),(7,.ptr 3 0),(8,.ptr 4 0),(9,.ptr 5 0),(10,.cv (j5 i))],[some (kBl x),some (iB 0),some (iB u),some (iB (u*u)),some (iB lo),some (iB hi)]⟩
def kI(i:Nat):Int:=if i=1 then 2 else if i=2 then 3 else 6
def cI(x:K)(i:Nat):Int:=if i=1 then x.c1 else if i=2 then x.c2 else x.c3
theorem zcJ (x : K) (b u lo hi r : Int) (i : Nat) (h : i = 1 ∨ i = 2 ∨ i = 3) (d : Bool) :
    (z3O P 180 (loopHead P 180 2) (stI x b u lo hi i) [(8,.r (J2 (kI i))),(9,.r (J2 (u*u*kI i))),(10,.r (.tup [J2 r,j5 0])),(22,.r (J2 (cI x i*r))),(28,.r (J2 1)),(29,.r (J2 (r+1))),(30,.r (J2 (cI x i*(r+1)))),(39,.r (j5 (cI x i).sign)),(41,.b d),
     (if d then 48 else 44,.r (J2 (lo+if d then cI x i*(r+1)else cI x i*r))),(if d then 51 else 47,.r (J2 (hi+if d then cI x i*r else cI x i*(r+1)))),(if d then 57 else 53,.stop)] false 100000).pick [1,2,3,4,7,8,9,10] [0,1,2,3,4,5]=
    some (loopHead P 180 2,stI x b u (lo+if d then cI x i*(r+1)else cI x i*r) (hi+if d then cI x i*r else cI x i*(r+1)) ((i+1:Nat):Int),
     [(0:Int)≤(i:Int)∧(i:Int)<4,PCall P 131 [j5 (kI i)] (J2 (kI i)),PCall P 128 [J2 (u*u),J2 (kI i)] (J2 (u*u*kI i)),PCall P 229 [J2 (u*u*kI i)] (.tup [J2 r,j5 0]),2≤2,(0:Int)≤(i:Int)∧(i:Int)<4,
      PCall P 128 [J2 (cI x i),J2 r] (J2 (cI x i*r)),(0:Int)≤(i:Int)∧(i:Int)<4,PCall P 131 [j5 1] (J2 1),PCall P 127 [J2 r,J2 1] (J2 (r+1)),PCall P 128 [J2 (cI x i),J2 (r+1)] (J2 (cI x i*(r+1))),2≤2,2≤2,(0:Int)≤(i:Int)∧(i:Int)<4,
      PCall P 183 [J2 (cI x i)] (j5 (cI x i).sign),decide ((cI x i).sign<0)=d]++(if d then [2≤2,2≤2]else [])++
     [PCall P 127 [J2 lo,J2 (if d then cI x i*(r+1)else cI x i*r)] (J2 (lo+if d then cI x i*(r+1)else cI x i*r)),PCall P 127 [J2 hi,J2 (if d then cI x i*r else cI x i*(r+1))] (J2 (hi+if d then cI x i*r else cI x i*(r+1))),2≤2,2≤2,
      CvL (kBl x),CvL (iB 0),CvL (iB u),CvL (iB (u*u)),CvL (iB (lo+if d then cI x i*(r+1)else cI x i*r)),CvL (iB (hi+if d then cI x i*r else cI x i*(r+1)))]):=by
 rcases h with rfl|rfl|rfl<;>cases d<;>(show _=_;kernel_rfl)
end Go.Fw
set_option maxRecDepth 10000
namespace Go.Fw
namespace K
theorem zpE{x y:K}(hy:0≤sgn y)(h:le (x*x) (y*y)):le x y:=by
 refine Classical.byContradiction fun hn=>?_
 have h1:=z40.2 hn
 have e:x*x-y*y=(x-y)*((x-y)+(y+y)):=(show ∀ρ:Nat→K,ρ 0*ρ 0-ρ 1*ρ 1=(ρ 0-ρ 1)*((ρ 0-ρ 1)+(ρ 1+ρ 1))from fun ρ=>CR.ring ρ rfl) (CR.vr [x,y])
 have h2:sgn (x*x-y*y)=1:=by rw[e,sgn_mul,h1,zlC h1 (zbd hy hy)];decide
 exact(z40.1 h2) h
theorem zbu{n:Int}(h:0≤n):0≤sgn (ofInt n):=by
 rw[z2M]
 rcases Int.lt_or_eq_of_le h with k|k
 · rw[Int.sign_eq_one_of_pos k];decide
 · rw[←k];decide
theorem zo5 {ρ : K} {k : Int} (hρ : ρ * ρ = ofInt k) (h0 : 0 ≤ sgn ρ) {u : Int} (hu : 0 ≤ u) (hk : 0 ≤ k) :
    le (ofInt (isq (u*u*k).natAbs)) (ofInt u*ρ)∧le (ofInt u*ρ) (ofInt ((isq (u*u*k).natAbs:Int)+1)):=by
 obtain⟨h1,h2⟩:=z7r (u*u*k).natAbs
 have hn:0≤u*u*k:=Int.mul_nonneg (Int.mul_nonneg hu hu) hk
 have e:ofInt u*ρ*(ofInt u*ρ)=ofInt (u*u*k):=by
  rw[ofInt_mul,ofInt_mul,←hρ]
  exact(show ∀v:Nat→K,v 0*v 1*(v 0*v 1)=v 0*v 0*(v 1*v 1)from fun v=>CR.ring v rfl) (CR.vr [ofInt u,ρ])
 generalize isq (u*u*k).natAbs=r at*
 constructor
 · refine zpE (z94 (zbu hu) h0) ?_
   rw[e,←ofInt_mul,z0F]
   have:((r*r:Nat):Int)≤((u*u*k).natAbs:Int):=Int.ofNat_le.2 h1
   rw[Int.natCast_mul]at this;omega
 · refine zpE (zbu (by omega)) ?_
   rw[e,←ofInt_mul,z0F]
   have:((u*u*k).natAbs:Int)<(((r+1)*(r+1):Nat):Int):=Int.ofNat_lt.2 h2
   simp only[Int.natCast_mul,Int.natCast_add,Int.natCast_one]at this
   omega
theorem zcH{x y:K}{c:Int}(hc:0≤c)(h:le x y):le (ofInt c*x) (ofInt c*y):=by
 unfold le at*
 have e:ofInt c*y-ofInt c*x=ofInt c*(y-x):=(show ∀v:Nat→K,v 0*v 1-v 0*v 2=v 0*(v 1-v 2)from fun v=>CR.ring v rfl) (CR.vr [ofInt c,y,x])
 rw[e];exact z94 (zbu hc) h
theorem zaW{x y:K}{c:Int}(hc:c≤0)(h:le x y):le (ofInt c*y) (ofInt c*x):=by
 unfold le at*
 have e:ofInt c*x-ofInt c*y=ofInt (-c)*(y-x):=by
  rw[show ofInt (-c)= -ofInt c from rfl]
  exact(show ∀v:Nat→K,v 0*v 2-v 0*v 1= -v 0*(v 1-v 2)from fun v=>CR.ring v rfl) (CR.vr [ofInt c,y,x])
 rw[e];exact z94 (zbu (by omega)) h
noncomputable def rLo(u c k:Int):Int:=if c<0 then c*((isq (u*u*k).natAbs:Int)+1)else c*(isq (u*u*k).natAbs:Int)
noncomputable def rHi(u c k:Int):Int:=if c<0 then c*(isq (u*u*k).natAbs:Int)else c*((isq (u*u*k).natAbs:Int)+1)
theorem zjd(u c k:Int):rHi u c k-rLo u c k=c.natAbs:=by
 unfold rHi rLo
 split
 · rw[Int.mul_add,Int.mul_one];omega
 · rw[Int.mul_add,Int.mul_one];omega
theorem zt6{ρ:K}{k:Int}(hρ:ρ*ρ=ofInt k)(h0:0≤sgn ρ){u:Int}(hu:0≤u)(hk:0≤k)(c:Int):le (ofInt (rLo u c k)) (ofInt u*(ofInt c*ρ))∧le (ofInt u*(ofInt c*ρ)) (ofInt (rHi u c k)):=by
 obtain⟨h1,h2⟩:=zo5 hρ h0 hu hk
 have e:ofInt u*(ofInt c*ρ)=ofInt c*(ofInt u*ρ):=(show ∀v:Nat→K,v 0*(v 1*v 2)=v 1*(v 0*v 2)from fun v=>CR.ring v rfl) (CR.vr [ofInt u,ofInt c,ρ])
 rw[e]
 unfold rLo rHi
 by_cases hc:c<0
 · rw[if_pos hc,if_pos hc,ofInt_mul,ofInt_mul]
   exact⟨zaW (by omega) h2,zaW (by omega) h1⟩
 · rw[if_neg hc,if_neg hc,ofInt_mul,ofInt_mul]
   exact⟨zcH (by omega) h1,zcH (by omega) h2⟩
noncomputable def sLo(x:K)(u:Int):Int:=x.c0*u+rLo u x.c1 2+rLo u x.c2 3+rLo u x.c3 6
noncomputable def sHi(x:K)(u:Int):Int:=x.c0*u+rHi u x.c1 2+rHi u x.c2 3+rHi u x.c3 6
theorem z5l(x:K):le x x:=by
 unfold le
 rw[sub_eq,add_neg,sgn_zero.2 rfl];decide
theorem ztx(x:K){u:Int}(hu:0≤u):le (ofInt (sLo x u)) (ofInt u*nu x.c0 x.c1 x.c2 x.c3)∧le (ofInt u*nu x.c0 x.c1 x.c2 x.c3) (ofInt (sHi x u)):=by
 have a1:=zt6 (ρ:=nu 0 1 0 0) (k:=2) (by decide) (by decide) hu (by decide) x.c1
 have a2:=zt6 (ρ:=nu 0 0 1 0) (k:=3) (by decide) (by decide) hu (by decide) x.c2
 have a3:=zt6 (ρ:=nu 0 0 0 1) (k:=6) (by decide) (by decide) hu (by decide) x.c3
 have e:ofInt u*nu x.c0 x.c1 x.c2 x.c3=ofInt (x.c0*u)+ofInt u*(ofInt x.c1*nu 0 1 0 0)+ofInt u*(ofInt x.c2*nu 0 0 1 0)+ofInt u*(ofInt x.c3*nu 0 0 0 1):=by
  rw[znA,ofInt_mul]
  exact(show ∀v:Nat→K,v 0*(v 1+(v 2+(v 3+v 4)))=v 1*v 0+v 0*v 2+v 0*v 3+v 0*v 4 from fun v=>CR.ring v rfl) (CR.vr [ofInt u,ofInt x.c0,ofInt x.c1*nu 0 1 0 0,ofInt x.c2*nu 0 0 1 0,ofInt x.c3*nu 0 0 0 1])
 rw[e]
 unfold sLo sHi
 rw[ofInt_add,ofInt_add,ofInt_add,ofInt_add,ofInt_add,ofInt_add]
 exact⟨z29 (z29 (z29 (z5l _) a1.1) a2.1) a3.1,z29 (z29 (z29 (z5l _) a1.2) a2.2) a3.2⟩
theorem zt0(x:K)(u:Int):sHi x u-sLo x u=(x.c1.natAbs:Int)+x.c2.natAbs+x.c3.natAbs:=by
 have:=zjd u x.c1 2
 have:=zjd u x.c2 3
 have:=zjd u x.c3 6
 unfold sHi sLo;omega
theorem s_fl(x:K){u:Int}(hu:0<u)(h:(sLo x u).fdiv (x.d*u)=(sHi x u).fdiv (x.d*u)):(sLo x u).fdiv (x.d*u)=x.fl:=by
 obtain⟨h1,h2⟩:=ztx x (show 0≤u by omega)
 rw[←zkp,←mul_assoc,←ofInt_mul,Int.mul_comm u]at h1 h2
 rw[h]
 exact(zqY (Int.mul_pos x.pos hu) h1 h2 h).symm
theorem s_sep(x:K){u s:Int}(hu:0<u)(irr: ¬(x.c1=0∧x.c2=0∧x.c3=0))(hs:(x.c1.natAbs:Int)+x.c2.natAbs+x.c3.natAbs≤s)(h:(sLo x u).fdiv (x.d*u)≠(sHi x u).fdiv (x.d*u)):u≤385*(s*s*(s*s)):=by
 obtain⟨h1,h2⟩:=ztx x (show 0≤u by omega)
 exact zpM x.pos hu irr h1 h2 (by rw[zt0];exact hs) hs h
theorem fl_rat{x:K}(h:x.c1=0∧x.c2=0∧x.c3=0):x.c0.fdiv x.d=x.fl:=by
 obtain⟨h1,h2,h3⟩:=h
 have e:ofInt x.d*x=ofInt x.c0:=by rw[zkp,h1,h2,h3];rfl
 exact(zqY x.pos (by rw[e];exact z5l _) (by rw[e];exact z5l _) rfl).symm
end K
set_option maxRecDepth 100000
noncomputable def stO(x:K)(b:Int):St:=⟨J1 111 [(1,.ptr 0 0),(2,.ptr 1 0),(3,.cv (j5 b))],[some (kBl x),some (iB 0)]⟩
noncomputable def stK(x:K)(b k u:Int):St:=⟨J1 111 [(1,.ptr 0 0),(2,.ptr 1 0),(3,.cv (j5 b)),(4,.ptr 2 0),(6,.cv (j5 k))],[some (kBl x),some (iB 0),some (iB u)]⟩
theorem two{z:Nat}{a b:Int}(hz:z≤500000000)(ha:By z a)(hb:By z b):Two a b:=⟨z,hz,ha,hb⟩
theorem zou(n:Nat):isq n≤n:=by
 have h:=(z7r n).1
 rcases Nat.eq_zero_or_pos (isq n)with k|k
 · omega
 · have:=Nat.le_mul_of_pos_right (isq n) k;omega
structure RSz(n:Nat)(u c k:Int):Prop where
 hn:n≤10000
 u0:0≤u
 hk:0≤k∧k≤100
 hu:By (16*n+21) u
 hc:By n c
theorem By.one{n:Nat}(h:1≤n):By n 1:=(show By 1 1 from(by decide:(1:Int).natAbs<256^1)).mono h
theorem By.sm{n:Nat}{k:Int}(h:1≤n)(hk:0≤k∧k≤100):By n k:=(show By 1 k by unfold By;omega).mono h
section
variable{n:Nat}{u c k:Int}
theorem RSz.qk(h:RSz n u c k):By (32*n+43) (u*u*k):=((h.hu.mul h.hu).mul (By.sm (Nat.le_refl 1) h.hk)).mono (by omega)
theorem RSz.nn(h:RSz n u c k):0≤u*u*k:=Int.mul_nonneg (Int.mul_nonneg h.u0 h.u0) h.hk.1
theorem RSz.r(h:RSz n u c k):By (32*n+43) (isq (u*u*k).natAbs:Nat):=by
 have:=h.qk
 unfold By at*
 exact Nat.lt_of_le_of_lt (zou _) this
theorem RSz.r1(h:RSz n u c k):By (32*n+44) ((isq (u*u*k).natAbs:Nat)+1:Int):=h.r.add (By.one (by omega))
theorem RSz.cr(h:RSz n u c k):By (33*n+45) (c*(isq (u*u*k).natAbs:Nat)):=(h.hc.mul h.r).mono (by omega)
theorem RSz.cr1(h:RSz n u c k):By (33*n+45) (c*((isq (u*u*k).natAbs:Nat)+1:Int)):=(h.hc.mul h.r1).mono (by omega)
theorem RSz.lo(h:RSz n u c k):By (33*n+45) (K.rLo u c k):=by unfold K.rLo;split;exact h.cr1;exact h.cr
theorem RSz.hi(h:RSz n u c k):By (33*n+45) (K.rHi u c k):=by unfold K.rHi;split;exact h.cr;exact h.cr1
end
theorem zeH(c:Int):decide (c.sign<0)=decide (c<0):=by
 rcases Int.lt_trichotomy c 0 with h|h|h
 · rw[Int.sign_eq_neg_one_of_neg h,decide_eq_true h];rfl
 · subst h;rfl
 · rw[Int.sign_eq_one_of_pos h,decide_eq_false (by omega: ¬c<0)];rfl
theorem ztu {R : Goal} (hn : j7 R.n [0, 1, 2, 3, 4, 5] = true) {n : Nat} {x : K} {b u lo hi : Int} (i : Nat) (hi3 : i = 1 ∨ i = 2 ∨ i = 3) (h : RSz n u (cI x i) (kI i)) (hl : By (33 * n + 50) lo) (hh : By (33 * n + 50) hi)
    (hk:Ok P 180 (loopHead P 180 2) (stI x b u (lo+K.rLo u (cI x i) (kI i)) (hi+K.rHi u (cI x i) (kI i)) ((i+1:Nat):Int)) R):Ok P 180 (loopHead P 180 2) (stI x b u lo hi i) R:=by
 have w:=h.hn
 have t: ∀{a b:Int},By (33*n+50) a→By (33*n+50) b→Two a b:=two (by omega)
 have k4: -9223372036854775808≤kI i∧kI i≤9223372036854775807:=by have:=h.hk;omega
 have i4:(0:Int)≤(i:Int)∧(i:Int)<4:=by omega
 have q:=t ((h.hu.mul h.hu).mono (by omega)) (By.sm (by omega) h.hk)
 have r:=h.r.mono (show _≤33*n+50 by omega)
 have cm:=h.hc.mono (show _≤33*n+50 by omega)
 have r1:=h.r1.mono (show _≤33*n+50 by omega)
 have c0:=h.cr.mono (show _≤33*n+50 by omega)
 have c1:=h.cr1.mono (show _≤33*n+50 by omega)
 have sq:=zbU _ h.nn (h.qk.sml (by omega))
 by_cases hc:cI x i<0
 · rw[K.rLo,K.rHi,if_pos hc,if_pos hc]at hk
   exact okS (zcJ x b u lo hi _ i hi3 true) rfl (.cons i4 (.cons (Z5 _ k4) (.cons (z2A _ _ q) (.cons sq (.cons (by decide) (.cons i4 (.cons (z2A _ _ (t cm r)) (.cons i4 (.cons (Z5 1 (by decide)) (.cons (z75 _ 1 (t r (By.one (by omega)))) (.cons (z2A _ _ (t cm r1)) (.cons (by decide) (.cons (by decide) (.cons i4 (.cons (U3 _) (.cons (by rw[zeH];exact decide_eq_true hc)
    (.cons (by decide) (.cons (by decide) (.cons (z75 _ _ (t hl c1)) (.cons (z75 _ _ (t hh c0)) (.cons (by decide) (.cons (by decide) (.cons (z3u x) (.cons (V0 _) (.cons (V0 _) (.cons (V0 _) (.cons (V0 _) (.cons (V0 _) .nil)))))))))))))))))))))))))))) hn hk
 · rw[K.rLo,K.rHi,if_neg hc,if_neg hc]at hk
   exact okS (zcJ x b u lo hi _ i hi3 false) rfl (.cons i4 (.cons (Z5 _ k4) (.cons (z2A _ _ q) (.cons sq (.cons (by decide) (.cons i4 (.cons (z2A _ _ (t cm r)) (.cons i4 (.cons (Z5 1 (by decide)) (.cons (z75 _ 1 (t r (By.one (by omega)))) (.cons (z2A _ _ (t cm r1)) (.cons (by decide) (.cons (by decide) (.cons i4 (.cons (U3 _) (.cons (by rw[zeH];exact decide_eq_false hc)
    (.cons (z75 _ _ (t hl c0)) (.cons (z75 _ _ (t hh c1)) (.cons (by decide) (.cons (by decide) (.cons (z3u x) (.cons (V0 _) (.cons (V0 _) (.cons (V0 _) (.cons (V0 _) (.cons (V0 _) .nil)))))))))))))))))))))))))) hn hk
theorem ziC {R : Goal} (hn : j7 R.n [0, 1] = true) (hn2 : j7 R.n [0, 1, 2, 3, 4, 5] = true) (hn3 : j7 R.n [0, 1, 2, 4, 6, 7] = true) {n : Nat} {x : K} {b k u : Int} (hw : n ≤ 10000) (hx : x.sz ≤ n) (hu0 : 0 < u) (hu : By (16 * n + 21) u) (hkb : ¬ k < b)
    (h1:(K.sLo x u).fdiv (x.d*u)=(K.sHi x u).fdiv (x.d*u)→R.c (J2 x.fl)) (h2:(K.sLo x u).fdiv (x.d*u)≠(K.sHi x u).fdiv (x.d*u)→Ok P 180 (loopHead P 180 0) (stO x (i64.wrap (b*2))) R):
    Ok P 180 (loopHead P 180 1) (stK x b k u) R:=by
 obtain⟨c0,c1,c2,c3,cd⟩:=By.of_sz hx
 have t: ∀{a b:Int},By (33*n+50) a→By (33*n+50) b→Two a b:=two (by omega)
 have um:=hu.mono (show _≤33*n+50 by omega)
 have z1:RSz n u x.c1 2:=⟨hw,by omega,by decide,hu,c1⟩
 have z2:RSz n u x.c2 3:=⟨hw,by omega,by decide,hu,c2⟩
 have z3:RSz n u x.c3 6:=⟨hw,by omega,by decide,hu,c3⟩
 have l0:By (33*n+46) (x.c0*u):=(c0.mul hu).mono (by omega)
 have l1:=l0.add (z1.lo.mono (show _≤33*n+46 by omega))
 have l2:=l1.add (z2.lo.mono (show _≤33*n+47 by omega))
 have l3:=l2.add (z3.lo.mono (show _≤33*n+48 by omega))
 have k1:=l0.add (z1.hi.mono (show _≤33*n+46 by omega))
 have k2:=k1.add (z2.hi.mono (show _≤33*n+47 by omega))
 have k3:=k2.add (z3.hi.mono (show _≤33*n+48 by omega))
 have hd:By (33*n+50) (x.d*u):=(cd.mul hu).mono (by omega)
 have hp:=Int.mul_pos x.pos hu0
 refine zsd x b k u (decide_eq_false hkb) (t um um) (t (c0.mono (by omega)) um) hn3 ?_
 refine ztu hn2 1 (.inl rfl) z1 (l0.mono (by omega)) (l0.mono (by omega)) (ztu hn2 2 (.inr (.inl rfl)) z2 (l1.mono (by omega)) (k1.mono (by omega)) (ztu hn2 3 (.inr (.inr rfl)) z3 (l2.mono (by omega)) (k2.mono (by omega)) ?_))
 have e: ∀{v:Bool},decide ((K.sLo x u).fdiv (x.d*u)=(K.sHi x u).fdiv (x.d*u))=v→(decide ((K.sLo x u).fdiv (x.d*u)<0)==decide ((K.sHi x u).fdiv (x.d*u)<0)&&(bytesOf ((K.sLo x u).fdiv (x.d*u)).natAbs==bytesOf ((K.sHi x u).fdiv (x.d*u)).natAbs&&true))=v:=fun h=>by rw[zir];exact h
 by_cases h:(K.sLo x u).fdiv (x.d*u)=(K.sHi x u).fdiv (x.d*u)
 · refine zpP x b u (u*u) (K.sLo x u) (K.sHi x u) (e (decide_eq_true h)) (t (cd.mono (by omega)) um) (t (l3.mono (by omega)) hd) hp (t (k3.mono (by omega)) hd) hp ?_
   rw[K.s_fl x hu0 h];exact h1 h
 · exact zow x b u (u*u) (K.sLo x u) (K.sHi x u) (e (decide_eq_false h)) (t (cd.mono (by omega)) um) (t (l3.mono (by omega)) hd) hp (t (k3.mono (by omega)) hd) hp hn (h2 h)
theorem z82(m:Nat):(0:Int)<2^m:=Int.pow_pos (by decide)
theorem zeG {R : Goal} (hn : j7 R.n [0, 1, 2] = true) {n : Nat} (hw : n ≤ 10000) {x : K} {b : Nat} (hb : b ≤ 64 * n + 40) (H : ∀ m k : Nat, b ≤ m → m < 8 * (16 * n + 21) → ¬ (k : Int) < b → Ok P 180 (loopHead P 180 1) (stK x b k (2 ^ m)) R) :
    ∀(f k:Nat),b-k≤f→50≤k→k<8*(16*n+21)→Ok P 180 (loopHead P 180 1) (stK x b k (2^k)) R:=by
 intro f
 induction f with
 |zero=>intro k h1 h2 h3;exact H k k (by omega) h3 (by omega)
 |succ f ih=>
  intro k h1 h2 h3
  by_cases hk:k<b
  · have hz:=zat h3
    refine znu x b k (2^k) (decide_eq_true (by omega)) ⟨16*n+21,by omega,hz,hz⟩ hn ?_
    rw[w64 (by omega),←Int.pow_add,show((k:Int)+k)=((k+k:Nat):Int) by omega]
    exact ih (k+k) (by omega) (by omega) (by omega)
  · exact H k k (by omega) h3 (by omega)
theorem ziw{n m:Nat}{x:K}(hx:x.sz≤n)(irr: ¬(x.c1=0∧x.c2=0∧x.c3=0))(h:(K.sLo x (2^m)).fdiv (x.d*2^m)≠(K.sHi x (2^m)).fdiv (x.d*2^m)):m<32*n+17:=by
 obtain⟨_,c1,c2,c3,_⟩:=By.of_sz hx
 have s:=K.s_sep x (u:=2^m) (s:=((4*256^n:Nat):Int)) (z82 m) irr (by unfold By at c1 c2 c3;omega) h
 have e:(385*(((4*256^n:Nat):Int)*((4*256^n:Nat):Int)*(((4*256^n:Nat):Int)*((4*256^n:Nat):Int))))=((385*256*2^(32*n):Nat):Int):=by
  have e2:(4*256^n)*(4*256^n)*((4*256^n)*(4*256^n))=256*2^(32*n):=by
   have:(2:Nat)^(32*n)=256^n*256^n*(256^n*256^n):=by
    rw[show(256:Nat)=2^8 from rfl,←Nat.pow_mul,←Nat.pow_add,←Nat.pow_add];congr 1;omega
   rw[this]
   generalize 256^n=z
   grind
  rw[Nat.mul_assoc,←e2]
  simp only[Int.natCast_mul]
  rfl
 rw[e]at s
 have s2:2^m≤385*256*2^(32*n):=by
  have:((2^m:Nat):Int)≤((385*256*2^(32*n):Nat):Int):=by rw[Int.natCast_pow];exact s
  exact Int.ofNat_le.1 this
 have s3:2^m<2^(32*n+17):=by
  rw[Nat.pow_add]
  have:=Nat.pow_pos (n:=32*n) (show 0<2 by decide)
  omega
 exact(Nat.pow_lt_pow_iff_right (show 1<2 by decide)).1 s3
theorem zls {R : Goal} (hn : j7 R.n [0, 1, 4] = true) (hn0 : j7 R.n [0, 1] = true) (hn1 : j7 R.n [0, 1, 2] = true) (hn2 : j7 R.n [0, 1, 2, 3, 4, 5] = true) (hn3 : j7 R.n [0, 1, 2, 4, 6, 7] = true) {n : Nat} {x : K} (hw : n ≤ 10000) (hx : x.sz ≤ n)
    (irr: ¬(x.c1=0∧x.c2=0∧x.c3=0)) (hR:R.c (J2 x.fl)): ∀(f b:Nat),32*n+17-b≤f→8≤b→b≤64*n+40→Ok P 180 (loopHead P 180 0) (stO x b) R:=by
 intro f
 induction f with
 |zero=>
  intro b h1 h2 h3
  refine zi7 x b (by decide) (by split<;>omega) hn ?_
  have H: ∀m k:Nat,b≤m→m<8*(16*n+21)→ ¬(k:Int)<b→Ok P 180 (loopHead P 180 1) (stK x b k (2^m)) R:=fun m k m1 m2 m3=>
   ziC hn0 hn2 hn3 hw hx (z82 m) (zat m2) m3 (fun _=>hR) (fun he=>absurd (ziw hx irr he) (by omega))
  by_cases hb:(50:Int)<b
  · rw[if_pos hb]
    exact zeG hn1 hw h3 H (b-50) 50 (Nat.le_refl _) (Nat.le_refl _) (by omega)
  · rw[if_neg hb,Int.toNat_natCast]
    exact H b 50 (Nat.le_refl _) (by omega) hb
 |succ f ih=>
  intro b h1 h2 h3
  refine zi7 x b (by decide) (by split<;>omega) hn ?_
  have H: ∀m k:Nat,b≤m→m<8*(16*n+21)→ ¬(k:Int)<b→Ok P 180 (loopHead P 180 1) (stK x b k (2^m)) R:=fun m k m1 m2 m3=>
   ziC hn0 hn2 hn3 hw hx (z82 m) (zat m2) m3 (fun _=>hR) (fun he=>by
    have:=ziw hx irr he
    rw[w64 (by omega),show(b:Int)*2=((b*2:Nat):Int) by omega]
    exact ih (b*2) (by omega) (by omega) (by omega))
  by_cases hb:(50:Int)<b
  · rw[if_pos hb]
    exact zeG hn1 hw h3 H (b-50) 50 (Nat.le_refl _) (Nat.le_refl _) (by omega)
  · rw[if_neg hb,Int.toNat_natCast]
    exact H b 50 (Nat.le_refl _) (by omega) hb
theorem zgh(x:K)(hx:x.sz≤10000):PCall P 180 [Z0 x] (J2 x.fl):=by
 by_cases h:x.c1=0∧x.c2=0∧x.c3=0
 · obtain⟨c0,_,_,_,cd⟩:=By.of_sz hx
   have:=zpy x (decide_eq_true h) (by omega) (by omega) ⟨10000,by decide,c0,cd⟩ x.pos
   rwa[K.fl_rat h]at this
 · exact Y6 (zq8 x (decide_eq_false h) (by omega) (by omega) (zls rfl rfl rfl rfl rfl hx (Nat.le_refl _) h rfl (32*x.sz+17) 8 (by omega) (by decide) (by omega)))
theorem zd4 (n : Nat) (hn : n ≤ 30000) {R : Goal} (hR0 : j7 R.n [0, 1] = true) (xs : List RN) (hx : ∀ k (hk : k < xs.length), xs[k].raw n = true) (hl : xs.length ≤ 12) (d : Nat) : ∀ (k : Nat) (s : RN), k + d = xs.length → s.raw (k * (2 * n + 2) + 1) = true → R.c (.tup [(zfK s (xs.drop k)).c, j5 0]) →
    Ok P 114 (loopHead P 114 0) ⟨J1 39 [(4,.ptr 0 0),(6,.cv (nmV xs)),(8,.ptr 1 0),(9,.cv (j5 k))],[some (own RN.zero.l),some (own s.l)]⟩ R:=by
 induction d with
 |zero=>
  intro k s hk _ hR
  rw[List.drop_eq_nil_of_le (by omega)]at hR
  exact zjA xs s .zero k (decide_eq_false (by omega)) hR
 |succ d ih=>
  intro k s hk hs hR
  have hlt:k<xs.length:=by omega
  rw[List.drop_eq_getElem_cons hlt]at hR
  have hm:k*(2*n+2)≤11*(2*n+2):=Nat.mul_le_mul_right _ (by omega)
  have x1:=hx k hlt
  have q:=zbt x1 x1
  have g:=z0O z9J hlt
  refine zkX xs s xs[k] k (decide_eq_true (by omega)) (RN.raw_mono x1 (by omega)) (RN.raw_mono x1 (by omega)) (RN.raw_mono hs (by omega)) (RN.raw_mono q (by omega)) (by omega) g (by omega) g hR0 ?_
  rw[w64 (by omega)]
  refine ih (k+1) _ (by omega) (RN.raw_mono (zaJ hs q) ?_) hR
  rw[Nat.add_mul];omega
theorem z8z(l:List (Int×Int))(m:VN)(hl:l.length≤12)(hm:m.raw 8000=true):PCall P 114 [rdV l,m.c] (.tup [(zaI l m).1.c,j5 (zaI l m).2]):=by
 have hm':=VN.raw_mono hm (show 8000≤10000 by decide)
 unfold zaI
 by_cases h:(z1W l m).2=0
 · rw[if_pos h]
   refine Y6 (znf l m (by rw[h];rfl) (by omega) hm' (by decide) ?_)
   exact zd4 (3*8000+11) (by decide) rfl _ (zbr hm) (Nat.le_trans (z7T l m) hl) (z1W l m).1.length 0 (oN 0) (by omega) (z55 (by decide+kernel)) rfl
 · rw[if_neg h]
   exact zp1 l m (bne_iff_ne.2 h) (by omega) hm'
theorem z6Z(xs:List RN)(hl:xs.length<2^30):PCall P 119 [nmV xs,nmV xs] (.lit (.bool true)):=by
 refine zqD xs (bne_self_eq_false _) (R := (· = _)) ?_
 refine z5H (fun k => Ok P 119 (loopHead P 119 0) ⟨J1 26 [(0, .cv (nmV xs)), (1, .cv (nmV xs)), (5, .cv (j5 k))], []⟩ (.of (· = .lit (.bool true)))) xs.length ?_ ?_
 · intro k hk h
   have b:(0:Int)≤(k:Int)∧(k:Int)<(xs.length:Int):=by omega
   have gt:=z0O z9J hk
   refine ziI xs xs[k] k (decide_eq_true b.2) ?_ b gt b gt rfl ?_
   · rw[z1I];rfl
   · rw[w64 (by omega)];exact h
 · exact zjp xs .zero xs.length (decide_eq_false (by omega)) rfl
noncomputable def halfN:RN:=kN (K.of 1 0 0 0 2)
theorem zj6:(K.of 1 0 0 0 2).sz≤1:=K.sz_of (by decide) (by decide) (by decide) (by decide) (by decide) (by decide)
theorem zsM:PCall P 177 [j5 1,j5 2] (.tup [halfN.c,j5 0]):=by
 have:=zrp 1 2 (by decide) (by decide) (z0q (by decide)) (z0q (by decide)) (by decide)
 unfold halfN
 rw[z5N];exact this
theorem zto:PCall P 179 [j5 1,j5 2] (.tup [halfN.c,j5 0]):=by
 have:=znz 1 2 (by decide) (by decide) (by decide) (by decide) (by decide)
 unfold halfN
 rw[z5N];exact this
noncomputable def flN(x:RN):Int:=match toO x with|some k=>k.fl|none=>0
theorem zr0(x:K):flN (kN x)=x.fl:=by unfold flN;rw[z20]
theorem zhx(x:RN)(h: ∃k:K,x=kN k∧k.sz≤10000):PCall P 178 [x.c] (J2 (flN x)):=by
 obtain⟨k,rfl,hk⟩:=h
 rw[zr0,z5N];exact zhv k (by omega)
theorem zhD(x:RN)(h: ∃k:K,x=kN k∧k.sz≤10000):PCall P 180 [x.c] (J2 (flN x)):=by
 obtain⟨k,rfl,hk⟩:=h
 rw[zr0,z5N];exact zgh k hk
end Go.Fw
