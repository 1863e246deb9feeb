/- A part of the proof that the law returns true for every input: an executor for the model's code, and what functions of the program compute. -/
import Derived.Test.YtcafjpldfnegiaaGreatDoorB11
import Derived.Test.YtcafjpldfnegiaaGreatDoorB15
import Derived.Test.YtcafjpldfnegiaaGreatDoorB20
import Derived.Test.YtcafjpldfnegiaaGreatDoorB29
import Derived.KernelRfl
open Go IntKind
namespace Go.Fw
set_option maxRecDepth 100000
theorem z8J(xs:List Nat)(j k:Nat):(xs.drop j).getD k 0=xs.getD (j+k) 0:=by
 simp[List.getD_eq_getElem?_getD,List.getElem?_drop]
theorem z9R {R : Goal} (hn : j7 R.n [0] = true) (hL : R.Lent 1) (j n : Nat) (xs : List Nat) (hj : j + n ≤ xs.length) (hl : xs.length < 2 ^ 60)
    (hR:R.m (.sl 0 j (tz ((xs.drop j).take n)).length 1) [some (own (j4 xs))]): ∀(k:Nat),k≤n→tz ((xs.drop j).take k)=tz ((xs.drop j).take n)→
    Ok P 234 (loopHead P 234 0) ⟨J1 21 [(0,.sl 0 j k 1)],[some (own (j4 xs))]⟩ R:=by
 intro k
 induction k with
 |zero=>
  intro hk ht
  rw[←ht,List.take_zero]at hR
  exact zkn j 0 xs (by decide) (BlksCv.one (J0 _)) hL hR
 |succ k ih=>
  intro hk ht
  have hw:i64.wrap (((k+1:Nat):Int)-1)=(k:Int):=by rw[w64 (by omega)];omega
  have e0:j+(k:Int).toNat*1=j+k:=by omega
  have hts:=z0Y (xs:=xs.drop j) (i:=k) (by rw[List.length_drop];omega)
  rw[z8J]at hts
  have hg:=W5 (Y2 (xs:=xs) (i:=j+k) (by omega))
  by_cases hx:xs.getD (j+k) 0=0
  · refine zkY j (k+1) xs (by simp) (by rw[hw,e0];exact beq_iff_eq.2 (by omega)) (by rw[hw];omega) (by rw[hw,e0];exact hg) (by rw[hw];omega) hn ?_
    rw[hw]
    have h1:((k:Int)-0).toNat=k:=by omega
    rw[h1]
    exact ih (by omega) (by rw[←ht,hts,hx,W6])
  · have:(tz ((xs.drop j).take n)).length=k+1:=by rw[←ht,hts,z0P hx];simp;omega
    rw[this]at hR
    exact zlZ j (k+1) xs (by simp) (by rw[hw,e0];exact beq_eq_false_iff_ne.2 (by omega)) (by rw[hw];omega) (by rw[hw,e0];exact hg) (BlksCv.one (J0 _)) hL hR
theorem zgE(j n:Nat)(xs:List Nat)(hj:j+n≤xs.length)(hl:xs.length<2^60):z2l P 234 [some (own (j4 xs))] [.sl 0 j n 1] (.sl 0 j (tz ((xs.drop j).take n)).length 1) [some (own (j4 xs))]:=
 zrK _ _ _ (z9R (R:= .lent 1 (fun a b=>a= .sl 0 j (tz ((xs.drop j).take n)).length 1∧b=[some (own (j4 xs))])) rfl ⟨rfl,rfl⟩ j n xs hj hl ⟨rfl,rfl⟩ n (Nat.le_refl _) rfl)
theorem zqM(n:Nat)(xs:List Nat){Q:MV→List Blk→Prop}(hR:Ok P 231 (loopHead P 231 0) ⟨J1 62 [(0,.sl 0 0 n 1),(4,.cv (.lit (.int .i64 0)))],[some (own (j4 xs))]⟩ (.lent [some (own (j4 xs))].length Q)):z3m P 231 [some (own (j4 xs))] [.sl 0 0 n 1] Q:=
 z90 (keep:=[0,4]) (σ:=[0]) (ors:=[(3,.stop)]) (by kernel_rfl) rfl (.cons (show CvL (own (j4 xs))from(J0 _)) .nil) rfl hR
theorem zjw(j n c:Nat)(xs:List Nat)(h1:((↑(xs.getD (j+0) 0):Int)==0)=true)(o0:(0:Int)≤0∧(0:Int)<n)(o1:(own (j4 xs))[j+0]?=some (.cv (.lit (.int .i64 ↑(xs.getD (j+0) 0)))))(o4:(0:Int)≤1∧(1:Int)≤n∧(n:Int)≤n∧((1:Int)=0∨(1:Int)<n)){R:Goal}(hn:j7 R.n [0]=true)(hR:Ok P 231 (loopHead P 231 0) ⟨J1 62 [(0,.sl 0 (j+1) ((n:Int)-1).toNat 1),(4,.cv (.lit (.int .i64 (i64.wrap ((c:Int)+24)))))],[some (own (j4 xs))]⟩ R):Ok P 231 (loopHead P 231 0) ⟨J1 62 [(0,.sl 0 j n 1),(4,.cv (j5 (c:Int)))],[some (own (j4 xs))]⟩ R:=
 z1z (m:=1) (keep:=[0,4]) (σ:=[0]) (.c o0 (.e 3 o1 (.c (eqn 1) (.b 5 h1 (.c o4 (.o 12 .stop .nil)))))) (by kernel_rfl) rfl hn hR (.cons (J0 _) .nil)
theorem zkI(j n c:Nat)(xs:List Nat)(h1:((↑(xs.getD (j+0) 0):Int)==0)=false)(o0:(0:Int)≤0∧(0:Int)<n)(o1:(own (j4 xs))[j+0]?=some (.cv (.lit (.int .i64 ↑(xs.getD (j+0) 0))))){R:Goal}(hn:j7 R.n [0]=true)(hR:Ok P 231 (loopHead P 231 1) ⟨J1 62 [(0,.sl 0 j n 1),(4,.cv (.lit (.int .i64 (c:Int)))),(5,.cv (.lit (.int .i64 0)))],[some (own (j4 xs))]⟩ R):Ok P 231 (loopHead P 231 0) ⟨J1 62 [(0,.sl 0 j n 1),(4,.cv (j5 (c:Int)))],[some (own (j4 xs))]⟩ R:=
 z1z (m:=1) (keep:=[0,4,5]) (σ:=[0]) (.c o0 (.e 3 o1 (.c (eqn 1) (.b 5 h1 (.o 7 .stop .nil))))) (by kernel_rfl) rfl hn hR (.cons (J0 _) .nil)
theorem ziU(j n c k:Nat)(xs:List Nat)(h1:(X9 BinOp.and i64 ((↑(xs.getD (j+0) 0):Int).fdiv ((2:Int)^min (k:Int).toNat 64)) (1:Int)==0)=true)(o0:(0:Int)≤0∧(0:Int)<n)(o1:(own (j4 xs))[j+0]?=some (.cv (.lit (.int .i64 ↑(xs.getD (j+0) 0)))))(o3:(0:Int)≤k){R:Goal}(hn:j7 R.n [0]=true)(hR:Ok P 231 (loopHead P 231 1) ⟨J1 62 [(0,.sl 0 j n 1),(4,.cv (.lit (.int .i64 (c:Int)))),(5,.cv (.lit (.int .i64 (i64.wrap ((k:Int)+1)))))],[some (own (j4 xs))]⟩ R):Ok P 231 (loopHead P 231 1) ⟨J1 62 [(0,.sl 0 j n 1),(4,.cv (j5 (c:Int))),(5,.cv (j5 (k:Int)))],[some (own (j4 xs))]⟩ R:=
 z1z (m:=1) (keep:=[0,4,5]) (σ:=[0]) (.c o0 (.e 3 o1 (.c (eqn 1) (.c o3 (.b 8 h1 (.o 12 .stop .nil)))))) (by kernel_rfl) rfl hn hR (.cons (J0 _) .nil)
theorem zjG(j n c k:Nat)(xs:List Nat)(h1:(X9 BinOp.and i64 ((↑(xs.getD (j+0) 0):Int).fdiv ((2:Int)^min (k:Int).toNat 64)) (1:Int)==0)=false)(o0:(0:Int)≤0∧(0:Int)<n)(o1:(own (j4 xs))[j+0]?=some (.cv (.lit (.int .i64 ↑(xs.getD (j+0) 0)))))(o3:(0:Int)≤k){R:Goal}(hn:j7 R.n [0]=true)(hR:Ok P 231 (loopHead P 231 2) ⟨J1 62 [(0,.sl 0 j n 1),(4,.cv (.lit (.int .i64 (c:Int)))),(5,.cv (.lit (.int .i64 (k:Int)))),(6,.cv (.lit (.int .i64 0)))],[some (own (j4 xs))]⟩ R):Ok P 231 (loopHead P 231 1) ⟨J1 62 [(0,.sl 0 j n 1),(4,.cv (j5 (c:Int))),(5,.cv (j5 (k:Int)))],[some (own (j4 xs))]⟩ R:=
 z1z (m:=1) (keep:=[0,4,5,6]) (σ:=[0]) (.c o0 (.e 3 o1 (.c (eqn 1) (.c o3 (.b 8 h1 (.o 10 .stop .nil)))))) (by kernel_rfl) rfl hn hR (.cons (J0 _) .nil)
theorem zl2(j n c k i:Nat)(xs:List Nat)(p q:Int)(h1:decide ((i:Int)<n)=true)(h2:decide (i64.wrap ((i:Int)+1)<(n:Int))=true)(o1:(0:Int)≤i∧(i:Int)<n)(o2:(own (j4 xs))[j+(i:Int).toNat*1]?=some (.cv (.lit (.int .i64 ↑(xs.getD (j+(i:Int).toNat*1) 0)))))(o4:(0:Int)≤k)(o5:(0:Int)≤i∧(i:Int)<n)(o6:j+(i:Int).toNat*1+1≤(own (j4 xs)).length)(o8:(0:Int)≤i∧(i:Int)<n)(o9:(j6 (own (j4 xs)) (j+(i:Int).toNat*1) [.cv (.lit (.int .i64 ((↑(xs.getD (j+(i:Int).toNat*1) 0):Int).fdiv ((2:Int)^min (k:Int).toNat 64))))])[j+(i:Int).toNat*1]?=some (.cv (.lit (.int .i64 p))))(o11:(0:Int)≤i64.wrap ((i:Int)+1)∧i64.wrap ((i:Int)+1)<(n:Int))(o12:(j6 (own (j4 xs)) (j+(i:Int).toNat*1) [.cv (.lit (.int .i64 ((↑(xs.getD (j+(i:Int).toNat*1) 0):Int).fdiv ((2:Int)^min (k:Int).toNat 64))))])[j+(i64.wrap ((i:Int)+1)).toNat*1]?=some (.cv (.lit (.int .i64 q))))(o14:(0:Int)≤i64.wrap ((24:Int)-k))(o16:(0:Int)≤i∧(i:Int)<n)(o17:j+(i:Int).toNat*1+1≤(j6 (own (j4 xs)) (j+(i:Int).toNat*1) [.cv (.lit (.int .i64 ((↑(xs.getD (j+(i:Int).toNat*1) 0):Int).fdiv ((2:Int)^min (k:Int).toNat 64))))]).length)(o18:CvL (j6 (j6 (own (j4 xs)) (j+(i:Int).toNat*1) [.cv (.lit (.int .i64 ((↑(xs.getD (j+(i:Int).toNat*1) 0):Int).fdiv ((2:Int)^min (k:Int).toNat 64))))]) (j+(i:Int).toNat*1) [.cv (.lit (.int .i64 (i64.wrap (p+(i64.wrap (q*2^min (i64.wrap ((24:Int)-k)).toNat 64)).tmod 16777216))))])){R:Goal}(hn:j7 R.n [0]=true)(hR:Ok P 231 (loopHead P 231 2) ⟨J1 62 [(0,.sl 0 j n 1),(4,.cv (.lit (.int .i64 (c:Int)))),(5,.cv (.lit (.int .i64 (k:Int)))),(6,.cv (.lit (.int .i64 (i64.wrap ((i:Int)+1)))))],[some (j6 (j6 (own (j4 xs)) (j+(i:Int).toNat*1) [.cv (.lit (.int .i64 ((↑(xs.getD (j+(i:Int).toNat*1) 0):Int).fdiv ((2:Int)^min (k:Int).toNat 64))))]) (j+(i:Int).toNat*1) [.cv (.lit (.int .i64 (i64.wrap (p+(i64.wrap (q*2^min (i64.wrap ((24:Int)-k)).toNat 64)).tmod 16777216))))])]⟩ R):Ok P 231 (loopHead P 231 2) ⟨J1 62 [(0,.sl 0 j n 1),(4,.cv (j5 (c:Int))),(5,.cv (j5 (k:Int))),(6,.cv (j5 (i:Int)))],[some (own (j4 xs))]⟩ R:=
 z1z (m:=1) (keep:=[0,4,5,6]) (σ:=[0]) (.b 5 h1 (.c o1 (.e 9 o2 (.c (eqn 1) (.c o4 (.c o5 (.c o6 (.b 19 h2 (.c o8 (.c o9 (.c (eqn 1) (.c o11 (.c o12 (.c (eqn 1) (.c o14 (.c (nz 16777216) (.c o16 (.c o17 (.o 23 (.e (.cv (j5 p))) (.o 28 (.e (.cv (j5 q))) (.o 39 .stop .nil))))))))))))))))))))) (by kernel_rfl) rfl hn hR (.cons o18 .nil)
theorem zlm(j n c k i:Nat)(xs:List Nat)(h1:decide ((i:Int)<n)=true)(h2:decide (i64.wrap ((i:Int)+1)<(n:Int))=false)(o1:(0:Int)≤i∧(i:Int)<n)(o2:(own (j4 xs))[j+(i:Int).toNat*1]?=some (.cv (.lit (.int .i64 ↑(xs.getD (j+(i:Int).toNat*1) 0)))))(o4:(0:Int)≤k)(o5:(0:Int)≤i∧(i:Int)<n)(o6:j+(i:Int).toNat*1+1≤(own (j4 xs)).length)(o8:CvL (j6 (own (j4 xs)) (j+(i:Int).toNat*1) [.cv (.lit (.int .i64 ((↑(xs.getD (j+(i:Int).toNat*1) 0):Int).fdiv ((2:Int)^min (k:Int).toNat 64))))])){R:Goal}(hn:j7 R.n [0]=true)(hR:Ok P 231 (loopHead P 231 2) ⟨J1 62 [(0,.sl 0 j n 1),(4,.cv (.lit (.int .i64 (c:Int)))),(5,.cv (.lit (.int .i64 (k:Int)))),(6,.cv (.lit (.int .i64 (i64.wrap ((i:Int)+1)))))],[some (j6 (own (j4 xs)) (j+(i:Int).toNat*1) [.cv (.lit (.int .i64 ((↑(xs.getD (j+(i:Int).toNat*1) 0):Int).fdiv ((2:Int)^min (k:Int).toNat 64))))])]⟩ R):Ok P 231 (loopHead P 231 2) ⟨J1 62 [(0,.sl 0 j n 1),(4,.cv (j5 (c:Int))),(5,.cv (j5 (k:Int))),(6,.cv (j5 (i:Int)))],[some (own (j4 xs))]⟩ R:=
 z1z (m:=1) (keep:=[0,4,5,6]) (σ:=[0]) (.b 5 h1 (.c o1 (.e 9 o2 (.c (eqn 1) (.c o4 (.c o5 (.c o6 (.b 19 h2 (.o 23 .stop .nil))))))))) (by kernel_rfl) rfl hn hR (.cons o8 .nil)
theorem zjH(j n c k i:Nat)(xs:List Nat)(h1:decide ((i:Int)<n)=false)(d:j+n≤xs.length)(e:xs.length<2^60)(o2:BlksCv [some (own (j4 xs)),some (own (j4 xs))])(o4:BlksCv [some (own (j4 xs))]){R:Goal}(hn:R.Lent 1)(hR:R.m (.tup [.sl 0 j (tz (List.take n (List.drop j xs))).length 1,.cv (.lit (.int .i64 (i64.wrap ((c:Int)+k))))]) [some (own (j4 xs))]):Ok P 231 (loopHead P 231 2) ⟨J1 62 [(0,.sl 0 j n 1),(4,.cv (j5 (c:Int))),(5,.cv (j5 (k:Int))),(6,.cv (j5 (i:Int)))],[some (own (j4 xs))]⟩ R:=
 zhU (ors:=[(5,.b false),(7,.m [0] (.sl 0 j (tz (List.take n (List.drop j xs))).length 1) [some (own (j4 xs))]),(13,.a)]) (by kernel_rfl) (.cons h1 (.cons (zgE j n xs d e) (.cons o2 (.cons (lq 1 2) (.cons o4 .nil))))) hn hR
theorem zev(A P Q:Nat)(hP:0<P)(hQ:0<Q):A/Q%(Q*P)=A%(Q*P)/Q+(A/(Q*P)%(Q*P))*P%(Q*P):=by
 have hA:=Nat.mod_add_div A (Q*P)
 generalize hA1:A/(Q*P)=A1 at hA ⊢
 generalize ha0:A%(Q*P)=a0 at hA ⊢
 have hlt:a0<Q*P:=by rw[←ha0];exact Nat.mod_lt _ (Nat.mul_pos hQ hP)
 have h1:A/Q=a0/Q+P*A1:=by
  rw[←hA,Nat.mul_assoc,Nat.add_mul_div_left _ _ hQ]
 have h2:a0/Q<P:=(Nat.div_lt_iff_lt_mul hQ).2 (by rw[Nat.mul_comm];exact hlt)
 have h3:A1%(Q*P)*P%(Q*P)=P*(A1%Q):=by
  rw[Nat.mul_comm (A1%(Q*P)) P,Nat.mul_comm Q P,Nat.mul_mod_mul_left,Nat.mul_comm P Q,Nat.mod_mul_right_mod]
 have h4:A1%Q+1≤Q:=Nat.mod_lt _ hQ
 have h5:P*(A1%Q)+P≤Q*P:=by
  calc P*(A1%Q)+P=P*(A1%Q+1):=by rw[Nat.mul_add,Nat.mul_one]
   _≤P*Q:=Nat.mul_le_mul_left _ h4
   _=Q*P:=Nat.mul_comm _ _
 have h6:P*A1=P*(A1%Q)+(A1/Q)*(Q*P):=by
  have:=Nat.mod_add_div A1 Q
  calc P*A1=P*(A1%Q+Q*(A1/Q)):=by rw[this]
   _=P*(A1%Q)+(A1/Q)*(Q*P):=by rw[Nat.mul_add,Nat.mul_comm (A1/Q),Nat.mul_comm Q P,←Nat.mul_assoc]
 rw[h1,h3,h6,←Nat.add_assoc,Nat.add_mul_mod_self_right,Nat.mod_eq_of_lt (by omega)]
theorem z9D(A k:Nat)(hk:k≤24):A/2^k%B24=A%B24/2^k+(A/B24%B24)*2^(24-k)%B24:=by
 have e:B24=2^k*2^(24-k):=by rw[←Nat.pow_add,show k+(24-k)=24 by omega]
 rw[e]
 exact zev A _ _ (Nat.pow_pos (by decide)) (Nat.pow_pos (by decide))
theorem z9U(u k:Nat)(hk:k<24):u%B24/2^k%2=u/2^k%2:=by
 have h:=Nat.testBit_mod_two_pow u 24 k
 rw[decide_eq_true hk,Bool.true_and]at h
 simp only[Nat.testBit_eq_decide_div_mod_eq,decide_eq_decide]at h
 have e:(B24:Nat)=2^24:=by decide
 rw[e];omega
theorem ztM(a:Nat)(h:a<2^63):X9 .and .i64 (a:Int) 1=((a%2:Nat):Int):=by
 show i64.wrap (((BitVec.ofInt 64 (a:Int)&&&BitVec.ofInt 64 ((1:Nat):Int)).toNat:Nat):Int)=_
 rw[BitVec.ofInt_natCast,BitVec.ofInt_natCast,BitVec.toNat_and,BitVec.toNat_ofNat,BitVec.toNat_ofNat,Nat.mod_eq_of_lt (by omega:a<2^64),show(1:Nat)%2^64=1 by decide,Nat.and_one_is_mod,w64 (by omega)]
theorem zf0(xs:List Nat)(i m d:Nat)(h:i<xs.length):(xs.set i d).getD m 0=if m=i then d else xs.getD m 0:=by
 by_cases e:m=i
 · subst e;rw[if_pos rfl,z4g h]
 · rw[if_neg e,z1s (fun h=>e h.symm)]
theorem z7G{xs ys:List Nat}(hl:xs.length=ys.length)(h: ∀m,m<xs.length→xs.getD m 0=ys.getD m 0):xs=ys:=by
 refine List.ext_getElem hl fun m h1 h2=>?_
 have:=h m h1
 simpa[List.getD_eq_getElem?_getD,List.getElem?_eq_getElem h1,List.getElem?_eq_getElem h2]using this
def X8(xs:List Nat)(j n w:Nat):List Nat:=xs.take j++Z1 B24 n w++xs.drop (j+n)
theorem z4l{xs:List Nat}{j n w:Nat}(h:j+n≤xs.length):(X8 xs j n w).length=xs.length:=by
 simp[X8,j9];omega
theorem z5Y{xs:List Nat}{j n w:Nat}(h:j+n≤xs.length):((X8 xs j n w).drop j).take n=Z1 B24 n w:=by
 have h1:(xs.take j).length=j:=by simp;omega
 rw[X8,List.append_assoc,List.drop_append_of_le_length (by omega),List.drop_eq_nil_of_le (by omega),List.nil_append,List.take_append_of_le_length (by rw[j9];omega),List.take_of_length_le (by rw[j9];omega)]
theorem z78{a b:List Nat}{m:Nat}(h:m<a.length):(a++b).getD m 0=a.getD m 0:=by
 simp[List.getD_eq_getElem?_getD,List.getElem?_append_left h]
theorem z6X{a b:List Nat}{m:Nat}(h:a.length≤m):(a++b).getD m 0=b.getD (m-a.length) 0:=by
 simp[List.getD_eq_getElem?_getD,List.getElem?_append_right h]
theorem zcu{xs:List Nat}{j n w m:Nat}(h:j+n≤xs.length)(_hm:m<xs.length):(X8 xs j n w).getD m 0=if j≤m∧m<j+n then w/B24^(m-j)%B24 else xs.getD m 0:=by
 have h1:(xs.take j).length=j:=by simp;omega
 have h2:(xs.take j++Z1 B24 n w).length=j+n:=by simp[j9];omega
 unfold X8
 by_cases c1:m<j
 · rw[if_neg (by omega),List.append_assoc,z78 (by omega)]
   simp[List.getD_eq_getElem?_getD,c1]
 · by_cases c2:m<j+n
   · rw[if_pos (by omega),z78 (by omega),z6X (by omega),h1,W4 _ _ _ _ (by omega)]
   · rw[if_neg (by omega),z6X (by omega),h2,z8J]
     congr 1;omega
section
variable{R:Goal}(hn:j7 R.n [0]=true)(hL:R.Lent 1)
include hn
theorem z5U (xs : List Nat) (j n c k u w : Nat) (hk : k < 24) (hu : u = 2 ^ k * w) (hw : u < B24 ^ n) (hx : ∀ m, m < n → xs.getD (j + m) 0 = u / B24 ^ m % B24) (hj : j + n ≤ xs.length) (hl : xs.length < 2 ^ 40) (hc : c < 2 ^ 50)
    (hR: ∀zs:List Nat,zs=X8 xs j n w→Ok P 231 (loopHead P 231 2) ⟨J1 62 [(0,.sl 0 j n 1),(4,.cv (j5 (c:Int))),(5,.cv (j5 (k:Int))),(6,.cv (j5 (n:Int)))],[some (own (j4 zs))]⟩ R):
    ∀(d i:Nat) (zs:List Nat),i+d=n→zs.length=xs.length→(∀m,m<xs.length→zs.getD m 0=if j≤m∧m<j+i then w/B24^(m-j)%B24 else xs.getD m 0)→
     Ok P 231 (loopHead P 231 2) ⟨J1 62 [(0,.sl 0 j n 1),(4,.cv (j5 (c:Int))),(5,.cv (j5 (k:Int))),(6,.cv (j5 (i:Int)))],[some (own (j4 zs))]⟩ R
 |0,i,zs,hi,hz,hg=>by
  have:i=n:=by omega
  subst this
  exact hR zs (z7G (by rw[hz,z4l hj]) fun m hm=>by rw[hg m (by omega),zcu hj (by omega)])
 |d+1,i,zs,hi,hz,hg=>by
  have e1:j+(i:Int).toNat*1=j+i:=by omega
  have ew:i64.wrap ((i:Int)+1)=((i+1:Nat):Int):=by rw[w64 (by omega)];omega
  have z0:zs.getD (j+i) 0=u/B24^i%B24:=by rw[hg _ (by omega),if_neg (by omega),hx i (by omega)]
  have hg0:=W5 (Y2 (xs:=zs) (i:=j+i) (by omega))
  have hfd:((zs.getD (j+i) 0:Nat):Int).fdiv (2^min (k:Int).toNat 64)=((zs.getD (j+i) 0/2^k:Nat):Int):=by
   rw[Int.toNat_natCast,Nat.min_eq_left (by omega)]
   have h2:(0:Int)<2^k:=Int.pow_pos (by decide)
   rw[Int.fdiv_eq_ediv_of_nonneg _ (by omega)]
   norm_cast
  have hset: ∀v:Nat,j6 (own (j4 zs)) (j+(i:Int).toNat*1) [.cv (.lit (.int .i64 (v:Int)))]=own (j4 (zs.set (j+i) v)):=by
   intro v;rw[e1];exact Z3 (by omega)
  have wi:w/B24^i=u/B24^i/2^k:=by
   rw[Nat.div_div_eq_div_mul,Nat.mul_comm,←Nat.div_div_eq_div_mul,hu,Nat.mul_div_cancel_left _ (Nat.pow_pos (by decide))]
  have upd: ∀v:Nat,v=w/B24^i%B24→ ∀m,m<xs.length→(zs.set (j+i) v).getD m 0=if j≤m∧m<j+(i+1)then w/B24^(m-j)%B24 else xs.getD m 0:=by
   intro v hv m hm
   rw[zf0 _ _ _ _ (by omega)]
   by_cases c1:m=j+i
   · rw[if_pos c1,if_pos (by omega),hv,c1,show j+i-j=i by omega]
   · rw[if_neg c1,hg m hm]
     by_cases c2:j≤m∧m<j+i
     · rw[if_pos c2,if_pos (by omega)]
     · rw[if_neg c2,if_neg (by omega)]
  have hdl:zs.getD (j+i) 0<B24:=by rw[z0];exact Nat.mod_lt _ (by decide)
  have hdk:zs.getD (j+i) 0/2^k≤zs.getD (j+i) 0:=Nat.div_le_self _ _
  by_cases hlast:i+1<n
  · have z1 : zs.getD (j + i + 1) 0 = u / B24 ^ i / B24 % B24 := by
      rw[hg _ (by omega),if_neg (by omega),Nat.add_assoc,hx (i+1) (by omega),Nat.pow_succ,←Nat.div_div_eq_div_mul]
    have hg1:(own (j4 (zs.set (j+i) (zs.getD (j+i) 0/2^k))))[j+i]?=some (.cv (j5 ((zs.getD (j+i) 0/2^k:Nat):Int))):=by
     have:=W5 (Y2 (xs:=zs.set (j+i) (zs.getD (j+i) 0/2^k)) (i:=j+i) (by simp;omega))
     rwa[z2S,z4g (by omega)]at this
    have hg2:(own (j4 (zs.set (j+i) (zs.getD (j+i) 0/2^k))))[j+i+1]?=some (.cv (j5 ((zs.getD (j+i+1) 0:Nat):Int))):=by
     have:=W5 (Y2 (xs:=zs.set (j+i) (zs.getD (j+i) 0/2^k)) (i:=j+i+1) (by simp;omega))
     rwa[z2S,z1s (by omega)]at this
    have hql:zs.getD (j+i+1) 0<B24:=by rw[z1];exact Nat.mod_lt _ (by decide)
    have hpw:2^(24-k)≤16777216:=by
     have:2^(24-k)≤2^24:=Nat.pow_le_pow_right (by decide) (by omega)
     simpa using this
    have hprod:zs.getD (j+i+1) 0*2^(24-k)≤B24*16777216:=Nat.mul_le_mul (Nat.le_of_lt hql) hpw
    have ek:i64.wrap (24-(k:Int))=((24-k:Nat):Int):=by rw[w64 (by omega)];omega
    have hv:i64.wrap (((zs.getD (j+i) 0/2^k:Nat):Int)+(i64.wrap (((zs.getD (j+i+1) 0:Nat):Int)*2^min (i64.wrap (24-(k:Int))).toNat 64)).tmod 16777216)=((w/B24^i%B24:Nat):Int):=by
     rw[ek,Int.toNat_natCast,Nat.min_eq_left (by omega)]
     have e3:((zs.getD (j+i+1) 0:Nat):Int)*2^(24-k)=((zs.getD (j+i+1) 0*2^(24-k):Nat):Int):=by norm_cast
     rw[e3,w64 (n:=((zs.getD (j+i+1) 0*2^(24-k):Nat):Int)) (by simp only[B24]at hprod;omega),Int.tmod_eq_emod_of_nonneg (by omega)]
     have e4:w/B24^i%B24=zs.getD (j+i) 0/2^k+zs.getD (j+i+1) 0*2^(24-k)%B24:=by rw[wi,z9D _ k (by omega),z0,z1]
     have hl2:w/B24^i%B24<B24:=Nat.mod_lt _ (by decide)
     rw[e4]at hl2 ⊢
     clear e4 e3
     generalize zs.getD (j+i+1) 0*2^(24-k)=X at hl2 ⊢
     generalize zs.getD (j+i) 0/2^k=Y at hl2 ⊢
     simp only[B24]at hl2 ⊢
     rw[w64 (by omega)];omega
    refine zl2 j n c k i zs ((zs.getD (j+i) 0/2^k:Nat):Int) ((zs.getD (j+i+1) 0:Nat):Int) (decide_eq_true (by omega)) (by rw[ew];exact decide_eq_true (by omega)) (by omega) (by rw[e1];exact hg0) (by omega) (by omega) (by rw[e1,J4,Q9];omega) (by omega)
     (by rw[e1,hfd,Z3 (by omega)];exact hg1) (by rw[ew];omega) (by rw[e1,ew,hfd,Z3 (by omega),show j+((i+1:Nat):Int).toNat*1=j+i+1 by omega];exact hg2) (by rw[ek];omega) (by omega)
     (by rw[e1,hfd,Z3 (by omega),J4,Q9,List.length_set];omega) ?_ hn ?_
    · rw[e1,hfd,Z3 (by omega),hv,Z3 (by simp;omega)];exact J0 _
    · rw[e1,hfd,Z3 (by omega),hv,Z3 (by simp;omega),List.set_set,ew]
      exact z5U xs j n c k u w hk hu hw hx hj hl hc hR d (i+1) _ (by omega) (by simpa using hz) (upd _ rfl)
  · have hAlt : u / B24 ^ i < B24 := by
      rw[Nat.div_lt_iff_lt_mul (Nat.pow_pos (by decide))]
      have:B24*B24^i=B24^n:=by rw[show n=i+1 by omega,Nat.pow_succ,Nat.mul_comm]
      omega
    have hv:zs.getD (j+i) 0/2^k=w/B24^i%B24:=by
     rw[wi,z0,Nat.mod_eq_of_lt hAlt,Nat.mod_eq_of_lt (Nat.lt_of_le_of_lt (Nat.div_le_self _ _) hAlt)]
    refine zlm j n c k i zs (decide_eq_true (by omega)) (by rw[ew];exact decide_eq_false (by omega)) (by omega) (by rw[e1];exact hg0) (by omega) (by omega) (by rw[e1,J4,Q9];omega) ?_ hn ?_
    · rw[e1,hfd,Z3 (by omega)];exact J0 _
    · rw[e1,hfd,Z3 (by omega),ew]
      exact z5U xs j n c k u w hk hu hw hx hj hl hc hR d (i+1) _ (by omega) (by simpa using hz) (upd _ hv)
end
theorem z7j{xs:List Nat}{j n m:Nat}(_h:j+n≤xs.length)(hm:m<n):((xs.drop j).take n).getD m 0=xs.getD (j+m) 0:=by
 simp[List.getD_eq_getElem?_getD,List.getElem?_drop,hm]
theorem z34{xs:List Nat}{j n m:Nat}(hd:Dig B24 xs)(h:j+n≤xs.length)(hm:m<n):xs.getD (j+m) 0=val B24 ((xs.drop j).take n)/B24^m%B24:=by
 rw[←z7j h hm]
 have hdd:Dig B24 ((xs.drop j).take n):=(hd.drop j).take n
 have hl:((xs.drop j).take n).length=n:=by simp;omega
 have:=z4K (by decide:0<B24) _ hdd
 rw[hl]at this
 conv=>lhs;rw[this]
 rw[W4 _ _ _ _ hm]
section
variable{R:Goal}(hn:j7 R.n [0]=true)(hL:R.Lent 1)
include hn hL
omit hn in
theorem zlG (xs : List Nat) (j n c k w : Nat) (hj : j + n ≤ xs.length) (hl : xs.length < 2 ^ 40) (hc : c + k < 2 ^ 60) (hw : w < B24 ^ n)
    (hR:R.m (.tup [.sl 0 j (dig B24 w).length 1,(.cv (j5 ((c:Int)+k)))]) [some (own (j4 (X8 xs j n w)))]):
    Ok P 231 (loopHead P 231 2) ⟨J1 62 [(0,.sl 0 j n 1),(4,.cv (j5 (c:Int))),(5,.cv (j5 (k:Int))),(6,.cv (j5 (n:Int)))],[some (own (j4 (X8 xs j n w)))]⟩ R:=by
 have hl2:=z4l (w:=w) hj
 refine zjH j n c k n (X8 xs j n w) (decide_eq_false (by omega)) (by omega) (by omega) (BlksCv.two (J0 _) (J0 _)) (BlksCv.one (J0 _)) hL ?_
 rw[z5Y hj,z0M (by decide:2≤B24) _ (U8 (by decide) _ _),z0h,Nat.mod_eq_of_lt hw,w64 (by omega)]
 exact hR
theorem zhM (xs : List Nat) (hd : Dig B24 xs) (j n c k u w : Nat) (hk : k < 24) (hu : u = 2 ^ k * w) (hw2 : w % 2 = 1) (hn0 : 0 < n) (huv : val B24 ((xs.drop j).take n) = u) (hj : j + n ≤ xs.length) (hl : xs.length < 2 ^ 40) (hc : c < 2 ^ 50)
    (hR:R.m (.tup [.sl 0 j (dig B24 w).length 1,.cv (j5 ((c:Int)+k))]) [some (own (j4 (X8 xs j n w)))]):
    ∀(d i:Nat),i+d=k→Ok P 231 (loopHead P 231 1) ⟨J1 62 [(0,.sl 0 j n 1),(4,.cv (j5 (c:Int))),(5,.cv (j5 (i:Int)))],[some (own (j4 xs))]⟩ R:=by
 have hx0:xs.getD (j+0) 0=u%B24:=by
  have:=z34 hd hj hn0
  rw[huv,Nat.pow_zero,Nat.div_one]at this
  exact this
 have hg:=W5 (Y2 (xs:=xs) (i:=j+0) (by omega))
 have hbit: ∀i,i≤k→X9 .and .i64 (((xs.getD (j+0) 0:Nat):Int).fdiv (2^min (i:Int).toNat 64)) 1=((u/2^i%2:Nat):Int):=by
  intro i hi
  have hfd:((xs.getD (j+0) 0:Nat):Int).fdiv (2^min (i:Int).toNat 64)=((xs.getD (j+0) 0/2^i:Nat):Int):=by
   rw[Int.toNat_natCast,Nat.min_eq_left (by omega)]
   have h2:(0:Int)<2^i:=Int.pow_pos (by decide)
   rw[Int.fdiv_eq_ediv_of_nonneg _ (by omega)]
   norm_cast
  have hlt:xs.getD (j+0) 0<B24:=hd.get (by decide) _
  have hle:=Nat.div_le_self (xs.getD (j+0) 0) (2^i)
  rw[hfd,ztM _ (by simp only[B24]at hlt;omega),hx0,z9U u i (by omega)]
 intro d
 induction d with
 |zero=>
  intro i hi
  have:i=k:=by omega
  subst this
  have hodd:u/2^i%2=1:=by rw[hu,Nat.mul_div_cancel_left _ (Nat.pow_pos (by decide)),hw2]
  refine zjG j n c i xs (by rw[hbit i (Nat.le_refl _),hodd];rfl) (by omega) hg (by omega) hn ?_
  have hub:u<B24^n:=by
   rw[←huv]
   have:=z0I (by decide:0<B24) _ ((hd.drop j).take n)
   rwa[show((xs.drop j).take n).length=n by simp;omega]at this
  have hwb:w<B24^n:=by
   refine Nat.lt_of_le_of_lt ?_ hub
   rw[hu];exact Nat.le_mul_of_pos_left _ (Nat.pow_pos (by decide))
  refine z5U hn xs j n c i u w hk hu hub (fun m hm=>by rw[←huv];exact z34 hd hj hm) hj hl hc ?_ n 0 xs (by omega) rfl (fun m _=>by rw[if_neg (by omega)])
  intro zs hz
  subst hz
  exact zlG hL xs j n c i w hj hl (by omega) hwb hR
 |succ d ih=>
  intro i hi
  have heven:u/2^i%2=0:=by
   have:u=2^i*(2*(2^(k-i-1)*w)):=by
    rw[hu,←Nat.mul_assoc,←Nat.mul_assoc,←Nat.pow_succ,←Nat.pow_add,show i+1+(k-i-1)=k by omega]
   rw[this,Nat.mul_div_cancel_left _ (Nat.pow_pos (by decide)),Nat.mul_mod_right]
  refine ziU j n c i xs (by rw[hbit i (by omega),heven];rfl) (by omega) hg (by omega) hn ?_
  rw[w64 (by omega)]
  exact ih (i+1) (by omega)
theorem zbR (n0 t w : Nat) (hw2 : w % 2 = 1) (xs : List Nat) (hd : Dig B24 xs) (hl : xs.length < 2 ^ 40) (j0 : Nat)
    (hR: ∀j n c,j+n=j0+n0→c+0=24*(j-j0)→j0≤j→j-j0=t/24→R.m (.tup [.sl 0 j (dig B24 w).length 1,.cv (j5 ((c:Int)+((t%24:Nat):Int)))]) [some (own (j4 (X8 xs j n w)))]):
    ∀(s j n c:Nat),t=24*(j-j0)+s→j+n=j0+n0→c=24*(j-j0)→j0≤j→j+n≤xs.length→val B24 ((xs.drop j).take n)=2^s*w→
     Ok P 231 (loopHead P 231 0) ⟨J1 62 [(0,.sl 0 j n 1),(4,.cv (j5 (c:Int)))],[some (own (j4 xs))]⟩ R:=by
 intro s
 induction s using Nat.strongRecOn with
 |_ s ih=>
  intro j n c ht hjn hc hj0 hj hv
  have hpos:0<2^s*w:=Nat.mul_pos (Nat.pow_pos (by decide)) (by omega)
  have hn0:0<n:=by
   rcases Nat.eq_zero_or_pos n with h|h
   · subst h;rw[List.take_zero]at hv;simp only[val]at hv;omega
   · exact h
  have hx0:xs.getD (j+0) 0=2^s*w%B24:=by
   have:=z34 hd hj hn0
   rw[hv,Nat.pow_zero,Nat.div_one]at this
   exact this
  have hg:=W5 (Y2 (xs:=xs) (i:=j+0) (by omega))
  by_cases h24:24≤s
  · have e : 2 ^ s * w = B24 * (2 ^ (s - 24) * w) := by
      rw[←Nat.mul_assoc,show(B24:Nat)=2^24 by decide,←Nat.pow_add,show 24+(s-24)=s by omega]
    have hz:xs.getD (j+0) 0=0:=by rw[hx0,e,Nat.mul_mod_right]
    have hsp:(xs.drop j).take n=xs.getD (j+0) 0::(xs.drop (j+1)).take (n-1):=by
     have hlt:j<xs.length:=by omega
     rw[List.drop_eq_getElem_cons hlt,show n=n-1+1 by omega,List.take_succ_cons,Nat.add_zero]
     simp[List.getD_eq_getElem?_getD,List.getElem?_eq_getElem hlt]
    have hv2:val B24 ((xs.drop (j+1)).take (n-1))=2^(s-24)*w:=by
     rw[hsp,hz]at hv
     simp only[val]at hv
     rw[e,Nat.zero_add]at hv
     exact Nat.eq_of_mul_eq_mul_left (by decide) hv
    have hp2:0<2^(s-24)*w:=Nat.mul_pos (Nat.pow_pos (by decide)) (by omega)
    have hn1:0<n-1:=by
     rcases Nat.eq_zero_or_pos (n-1)with h|h
     · rw[h,List.take_zero]at hv2;simp only[val]at hv2;omega
     · exact h
    refine zjw j n c xs (beq_iff_eq.2 (by omega)) (by omega) hg (by omega) hn ?_
    rw[w64 (by omega),show((n:Int)-1).toNat=n-1 by omega,show(c:Int)+24=((c+24:Nat):Int) by omega]
    exact ih (s-24) (by omega) (j+1) (n-1) (c+24) (by omega) (by omega) (by omega) (by omega) (by omega) hv2
  · have hnz : xs.getD (j + 0) 0 ≠ 0 := by
      rw[hx0]
      intro h
      have hb:=z9U (2^s*w) s (by omega)
      rw[h,Nat.zero_div,Nat.mul_div_cancel_left _ (Nat.pow_pos (by decide)),hw2]at hb
      simp at hb
    refine zkI j n c xs (beq_eq_false_iff_ne.2 (by omega)) (by omega) hg hn ?_
    have hts:t%24=s∧j-j0=t/24:=by omega
    refine zhM hn hL xs hd j n c s (2^s*w) w (by omega) rfl hw2 hn0 hv hj hl (by omega) ?_ s 0 (by omega)
    have:=hR j n c hjn (by omega) hj0 hts.2
    rwa[hts.1]at this
end
theorem z8L (xs : List Nat) (hd : Dig B24 xs) (hl : xs.length < 2 ^ 40) (n t w : Nat) (hn : n ≤ xs.length) (hv : val B24 (xs.take n) = 2 ^ t * w) (hw : w % 2 = 1) :
    z2l P 231 [some (own (j4 xs))] [.sl 0 0 n 1] (.tup [.sl 0 (t/24) (dig B24 w).length 1,.cv (j5 (t:Int))]) [some (own (j4 (X8 xs (t/24) (n-t/24) w)))]:=by
 refine zqM n xs ?_
 refine zbR (R:= .lent 1 _) rfl ⟨rfl,rfl⟩ n t w hw xs hd hl 0 ?_ t 0 n 0 (by omega) (by omega) (by omega) (by omega) (by omega) (by rw[List.drop_zero];exact hv)
 intro j m c h1 h2 _ h4
 have hj:j=t/24:=by omega
 subst hj
 have e1:(c:Int)+((t%24:Nat):Int)=(t:Int):=by omega
 have e2:m=n-t/24:=by omega
 rw[e1,e2]
 exact⟨rfl,rfl⟩
theorem z5z (t w : Nat) (hw : w % 2 = 1) (hl : (dig B24 (2 ^ t * w)).length < 2 ^ 40) : z2l P 231 [some (own (j4 (dig B24 (2 ^ t * w))))] [.sl 0 0 (dig B24 (2 ^ t * w)).length 1]
    (.tup [.sl 0 (t/24) (dig B24 w).length 1,.cv (j5 (t:Int))]) [some (own (j4 (X8 (dig B24 (2^t*w)) (t/24) ((dig B24 (2^t*w)).length-t/24) w)))]:=
 z8L _ (Y8 (by decide) _) hl _ t w (Nat.le_refl _) (by rw[List.take_length,Q8 (by decide)]) hw
def v2F:Nat→Nat→Nat
 |0,_=>0
 |f+1,n=>if n%2=1 then 0 else v2F f (n/2)+1
def v2(n:Nat):Nat:=v2F n n
def z3N(n:Nat):Nat:=n/2^v2 n
theorem zaf: ∀(f n:Nat),n≤f→n≠0→n=2^v2F f n*(n/2^v2F f n)∧n/2^v2F f n%2=1
 |0,n,h,h0=>by omega
 |f+1,n,h,h0=>by
  unfold v2F
  by_cases hn:n%2=1
  · rw[if_pos hn];simp[hn]
  · rw[if_neg hn]
    obtain⟨h1,h2⟩:=zaf f (n/2) (by omega) (by omega)
    have e:n/2^(v2F f (n/2)+1)=n/2/2^v2F f (n/2):=by rw[Nat.pow_succ,Nat.mul_comm,Nat.div_div_eq_div_mul]
    rw[e]
    refine⟨?_,h2⟩
    rw[Nat.pow_succ,Nat.mul_comm _ 2,Nat.mul_assoc,←h1];omega
theorem z2W{n:Nat}(h:n≠0):n=2^v2 n*z3N n∧z3N n%2=1:=zaf n n (Nat.le_refl _) h
theorem z31 (n m : Nat) (us vs : List Nat) (hn : n = us.length) (hm : m = vs.length) (hu : us = dig B24 (val B24 us)) (hv : vs = dig B24 (val B24 vs)) (hl : us.length < 2 ^ 40) (hl' : vs.length < 2 ^ 40) :
    PCall P 198 [.lst n (j4 us),.lst m (j4 vs)] (j5 (z1V (val B24 us) (val B24 vs))):=by
 subst hn hm
 have:=z6b (val B24 us) (val B24 vs) (by rw[←hu];omega) (by rw[←hv];omega)
 unfold z0r at this
 rw[←hu,←hv]at this
 exact this
theorem z4y: ∀l:List Nat,CV.flats (j4 l)=true
 | []=>rfl
 |x::l=>by
  have:=z4y l
  simp only[j4,List.map_cons,CV.flats,CV.flat,Bool.and_eq_true]at this ⊢
  exact⟨trivial,this⟩
theorem zb4 (n m : Nat) (us vs : List Nat) (hn : n = us.length) (hm : m = vs.length) (hu : us = dig B24 (val B24 us)) (hv : vs = dig B24 (val B24 vs)) (hl : us.length < 2 ^ 40) (hle : val B24 vs ≤ val B24 us) :
    zc8 P 199 [.lst n (j4 us),.lst m (j4 vs)] (.sl 0 0 (dig B24 (val B24 us-val B24 vs)).length 1) (j4 (Z1 B24 n (val B24 us-val B24 vs))):=by
 subst hn hm
 have:=z6J (val B24 us) (val B24 vs) (by rw[←hu];exact hl) hle
 unfold z0r at this
 rw[←hu,←hv]at this
 exact⟨this,z4y _⟩
theorem ziy (m D : Nat) (hD : D ≠ 0) (hm : (dig B24 D).length ≤ m) (hl : m < 2 ^ 40) : z2l P 231 [some (own (j4 (Z1 B24 m D)))] [.sl 0 0 (dig B24 D).length 1]
    (.tup [.sl 0 (v2 D/24) (dig B24 (z3N D)).length 1,.cv (j5 (v2 D:Int))]) [some (own (j4 (X8 (Z1 B24 m D) (v2 D/24) ((dig B24 D).length-v2 D/24) (z3N D))))]:=by
 obtain⟨h1,h2⟩:=z2W hD
 refine z8L _ (U8 (by decide) _ _) (by rw[j9];exact hl) _ _ _ (by rw[j9];exact hm) ?_ h2
 rw[←h1]
 have hlt:=J8 (by decide:2≤B24) D
 have hd:Dig B24 ((Z1 B24 m D).take (dig B24 D).length):=(U8 (by decide) _ _).take _
 have e:=z15 (b:=B24) (Z1 B24 m D) (dig B24 D).length (by rw[j9];exact hm)
 rw[z0h,Nat.mod_eq_of_lt (Nat.lt_of_lt_of_le hlt (Nat.pow_le_pow_right (by decide) hm))]at e
 have hv:=z0I (by decide:0<B24) _ hd
 rw[show((Z1 B24 m D).take (dig B24 D).length).length=(dig B24 D).length by simp[j9];omega]at hv
 generalize val B24 ((Z1 B24 m D).drop (dig B24 D).length)=z at e
 generalize val B24 ((Z1 B24 m D).take (dig B24 D).length)=y at e hv ⊢
 rcases Nat.eq_zero_or_pos z with h0|h0
 · subst h0;omega
 · have:=Nat.le_mul_of_pos_right (B24^(dig B24 D).length) h0;omega
theorem z01(xs:List Nat):List.take (xs.length*1) (List.drop 0 (own (j4 xs)))=List.map MV.cv (j4 xs):=by
 rw[Nat.mul_one,List.drop_zero]
 exact List.take_of_length_le (by rw[J4,Q9];exact Nat.le_refl _)
theorem zeu (n m : Nat) (us vs : List Nat) (hn : n = us.length) (hm : m = vs.length) (hu : us = dig B24 (val B24 us)) (hv : vs = dig B24 (val B24 vs)) (hl : us.length < 2 ^ 40) (hl' : vs.length < 2 ^ 40) :
    PCall P 197 [.lst n (j4 us),.lst m (j4 vs)] (z0r (val B24 us+val B24 vs)):=by
 subst hn hm
 have:=z4L (val B24 us) (val B24 vs) (by rw[←hu];omega) (by rw[←hv];omega)
 unfold z0r at this ⊢
 rw[←hu,←hv]at this
 exact this
theorem zrb(n m:Nat)(us vs:List Nat)(o0:(0:Int)≤i64.wrap ((n:Int)+m)∧i64.wrap ((n:Int)+m)≤i64.wrap ((n:Int)+m)∧(8:Int)*i64.wrap ((n:Int)+m)≤140737488355328∧i64.wrap ((n:Int)+m)≤4611686018427387904∧1=1)(o1:CvL (List.replicate ((i64.wrap ((n:Int)+m)).toNat*1) (.cv (.lit (.int .i64 0))))){R:CV→Prop}(hR:Ok P 200 (loopHead P 200 0) ⟨J1 63 [(0,.cv (.lst n (j4 us))),(1,.cv (.lst m (j4 vs))),(5,.sl 0 0 (i64.wrap ((n:Int)+m)).toNat 1),(6,.cv (.lit (.int .i64 0)))],[some (List.replicate ((i64.wrap ((n:Int)+m)).toNat*1) (.cv (.lit (.int .i64 0))))]⟩ (.of R)):Y3 P 200 [.lst n (j4 us),.lst m (j4 vs)] R:=
 Z6 (keep:=[0,1,5,6]) (σ:=[0]) (.c o0 (.o 9 .stop .nil)) (by kernel_rfl) rfl hR (.cons o1 .nil)
theorem zpf(n:Nat)(us:List Nat)(b:Int)(o0:(0:Int)≤n∧(n:Int)≤n∧(8:Int)*n≤140737488355328∧(n:Int)≤4611686018427387904∧1=1)(o1:CvL (List.replicate ((n:Int).toNat*1) (.cv (.lit (.int .i64 0))))){R:CV→Prop}(hR:Ok P 265 (loopHead P 265 0) ⟨J1 38 [(0,.cv (.lst n (j4 us))),(1,.cv (.lit (.int .i64 b))),(6,.sl 0 0 (n:Int).toNat 1),(7,.cv (.lit (.int .i64 0))),(8,.cv (.lit (.int .i64 (i64.wrap ((n:Int)-1)))))],[some (List.replicate ((n:Int).toNat*1) (.cv (.lit (.int .i64 0))))]⟩ (.of R)):Y3 P 265 [.lst n (j4 us),.lit (.int .i64 b)] R:=
 Z6 (keep:=[0,1,6,7,8]) (σ:=[0]) (.c o0 (.o 11 .stop .nil)) (by kernel_rfl) rfl hR (.cons o1 .nil)
theorem znW(n m:Nat)(us vs:List Nat)(g1:decide (z1V (val B24 us) (val B24 vs)<0)=true)(a:n=us.length)(c:m=vs.length)(d:us=dig 16777216 (val 16777216 us))(e:vs=dig 16777216 (val 16777216 vs))(f:us.length<2^40)(g:vs.length<2^40):PCall P 253 [.lst n (j4 us),.lst m (j4 vs)] (.tup [CV.lit (Value.slice none 0 0),.lst n (j4 us)]):=
 j3 (.r 4 (z31 n m us vs a c d e f g) (.b 6 g1 .nil)) (by kernel_rfl)
end Go.Fw
