/- A part of the proof that the law returns true for every input: an executor for the model's code, and what functions of the program compute. -/
import Derived.Test.YtcafjpldfnegiaaGreatDoorB11
import Derived.Test.YtcafjpldfnegiaaGreatDoorB15
import Derived.Test.YtcafjpldfnegiaaGreatDoorB28
import Derived.KernelRfl
open Go IntKind
namespace Go.Fw
set_option maxRecDepth 100000
theorem zlz(n m:Nat)(xs ys:List Nat)(h1:((n:Int) != (m:Int))=true)(h2:decide ((n:Int)<m)=true):PCall P 198 [.lst n (j4 xs),.lst m (j4 ys)] (.lit (.int .i64 (-1:Int))):=
 j3 (.b 6 h1 (.b 12 h2 .nil)) (by kernel_rfl)
theorem zkF(n m:Nat)(xs ys:List Nat)(h1:((n:Int) != (m:Int))=true)(h2:decide ((n:Int)<m)=false):PCall P 198 [.lst n (j4 xs),.lst m (j4 ys)] (.lit (.int .i64 1)):=
 j3 (.b 6 h1 (.b 12 h2 .nil)) (by kernel_rfl)
theorem zlQ(n m:Nat)(xs ys:List Nat)(h1:((n:Int) != (m:Int))=false){R:CV→Prop}(hR:Ok P 198 (loopHead P 198 0) ⟨J1 41 [(0,.cv (.lst n (j4 xs))),(1,.cv (.lst m (j4 ys))),(5,.cv (.lit (.int .i64 (i64.wrap ((n:Int)-1)))))],[]⟩ (.of R)):Y3 P 198 [.lst n (j4 xs),.lst m (j4 ys)] R:=
 Z6 (keep:=[0,1,5]) (σ:=[]) (.b 6 h1 (.o 11 .stop .nil)) (by kernel_rfl) rfl hR .nil
theorem zhA(n:Nat)(i:Int)(xs ys:List Nat)(h1:decide (i≥0)=true)(h2:((↑(xs.getD (i.toNat*1) 0):Int) != (↑(ys.getD (i.toNat*1) 0):Int))=true)(h3:decide ((↑(xs.getD (i.toNat*1) 0):Int)<(↑(ys.getD (i.toNat*1) 0):Int))=true)(o1:(0:Int)≤i∧i<(n:Int))(o2:(j4 xs)[i.toNat*1]?=some (.lit (.int .i64 ↑(xs.getD (i.toNat*1) 0))))(o4:(0:Int)≤i∧i<(n:Int))(o5:(j4 ys)[i.toNat*1]?=some (.lit (.int .i64 ↑(ys.getD (i.toNat*1) 0))))(o8:(0:Int)≤i∧i<(n:Int))(o9:(j4 xs)[i.toNat*1]?=some (.lit (.int .i64 ↑(xs.getD (i.toNat*1) 0))))(o11:(0:Int)≤i∧i<(n:Int))(o12:(j4 ys)[i.toNat*1]?=some (.lit (.int .i64 ↑(ys.getD (i.toNat*1) 0)))){R:Goal}(hR:R.c (.lit (.int .i64 (-1:Int)))):Ok P 198 (loopHead P 198 0) ⟨J1 41 [(0,.cv (.lst n (j4 xs))),(1,.cv (.lst n (j4 ys))),(5,.cv (j5 i))],[]⟩ R:=
 okT (.b 3 h1 (.c o1 (.l 7 o2 (.c (eqn 1) (.c o4 (.l 11 o5 (.c (eqn 1) (.b 13 h2 (.c o8 (.l 17 o9 (.c (eqn 1) (.c o11 (.l 21 o12 (.c (eqn 1) (.b 23 h3 .nil))))))))))))))) (by kernel_rfl) hR
theorem zhs(n:Nat)(i:Int)(xs ys:List Nat)(h1:decide (i≥0)=true)(h2:((↑(xs.getD (i.toNat*1) 0):Int) != (↑(ys.getD (i.toNat*1) 0):Int))=true)(h3:decide ((↑(xs.getD (i.toNat*1) 0):Int)<(↑(ys.getD (i.toNat*1) 0):Int))=false)(o1:(0:Int)≤i∧i<(n:Int))(o2:(j4 xs)[i.toNat*1]?=some (.lit (.int .i64 ↑(xs.getD (i.toNat*1) 0))))(o4:(0:Int)≤i∧i<(n:Int))(o5:(j4 ys)[i.toNat*1]?=some (.lit (.int .i64 ↑(ys.getD (i.toNat*1) 0))))(o8:(0:Int)≤i∧i<(n:Int))(o9:(j4 xs)[i.toNat*1]?=some (.lit (.int .i64 ↑(xs.getD (i.toNat*1) 0))))(o11:(0:Int)≤i∧i<(n:Int))(o12:(j4 ys)[i.toNat*1]?=some (.lit (.int .i64 ↑(ys.getD (i.toNat*1) 0)))){R:Goal}(hR:R.c (.lit (.int .i64 1))):Ok P 198 (loopHead P 198 0) ⟨J1 41 [(0,.cv (.lst n (j4 xs))),(1,.cv (.lst n (j4 ys))),(5,.cv (j5 i))],[]⟩ R:=
 okT (.b 3 h1 (.c o1 (.l 7 o2 (.c (eqn 1) (.c o4 (.l 11 o5 (.c (eqn 1) (.b 13 h2 (.c o8 (.l 17 o9 (.c (eqn 1) (.c o11 (.l 21 o12 (.c (eqn 1) (.b 23 h3 .nil))))))))))))))) (by kernel_rfl) hR
theorem zhF(n:Nat)(i:Int)(xs ys:List Nat)(h1:decide (i≥0)=true)(h2:((↑(xs.getD (i.toNat*1) 0):Int) != (↑(ys.getD (i.toNat*1) 0):Int))=false)(o1:(0:Int)≤i∧i<(n:Int))(o2:(j4 xs)[i.toNat*1]?=some (.lit (.int .i64 ↑(xs.getD (i.toNat*1) 0))))(o4:(0:Int)≤i∧i<(n:Int))(o5:(j4 ys)[i.toNat*1]?=some (.lit (.int .i64 ↑(ys.getD (i.toNat*1) 0)))){R:Goal}(hn:j7 R.n []=true)(hR:Ok P 198 (loopHead P 198 0) ⟨J1 41 [(0,.cv (.lst n (j4 xs))),(1,.cv (.lst n (j4 ys))),(5,.cv (.lit (.int .i64 (i64.wrap (i-1)))))],[]⟩ R):Ok P 198 (loopHead P 198 0) ⟨J1 41 [(0,.cv (.lst n (j4 xs))),(1,.cv (.lst n (j4 ys))),(5,.cv (j5 i))],[]⟩ R:=
 z07 (keep:=[0,1,5]) (σ:=[]) (.b 3 h1 (.c o1 (.l 7 o2 (.c (eqn 1) (.c o4 (.l 11 o5 (.c (eqn 1) (.b 13 h2 (.o 17 .stop .nil))))))))) (by kernel_rfl) rfl hn hR .nil
theorem zh1(n:Nat)(i:Int)(xs ys:List Nat)(h1:decide (i≥0)=false){R:Goal}(hR:R.c (.lit (.int .i64 0))):Ok P 198 (loopHead P 198 0) ⟨J1 41 [(0,.cv (.lst n (j4 xs))),(1,.cv (.lst n (j4 ys))),(5,.cv (j5 i))],[]⟩ R:=
 okT (.b 3 h1 .nil) (by kernel_rfl) hR
theorem zo2(n m:Nat)(xs ys:List Nat)(h1:decide ((n:Int)<m)=true)(o1:(0:Int)≤i64.wrap ((m:Int)+1)∧i64.wrap ((m:Int)+1)≤i64.wrap ((m:Int)+1)∧(8:Int)*i64.wrap ((m:Int)+1)≤140737488355328∧i64.wrap ((m:Int)+1)≤4611686018427387904∧1=1)(o2:CvL (List.replicate ((i64.wrap ((m:Int)+1)).toNat*1) (.cv (.lit (.int .i64 0))))){R:CV→Prop}(hR:Ok P 197 (loopHead P 197 0) ⟨J1 55 [(0,.cv (.lst m (j4 ys))),(1,.cv (.lst n (j4 xs))),(5,.sl 0 0 (i64.wrap ((m:Int)+1)).toNat 1),(6,.cv (.lit (.int .i64 0))),(7,.cv (.lit (.int .i64 0)))],[some (List.replicate ((i64.wrap ((m:Int)+1)).toNat*1) (.cv (.lit (.int .i64 0))))]⟩ (.of R)):Y3 P 197 [.lst n (j4 xs),.lst m (j4 ys)] R:=
 Z6 (keep:=[0,1,5,6,7]) (σ:=[0]) (.b 6 h1 (.c o1 (.o 18 .stop .nil))) (by kernel_rfl) rfl hR (.cons o2 .nil)
theorem zrC(n m:Nat)(xs ys:List Nat)(h1:decide ((n:Int)<m)=false)(o1:(0:Int)≤i64.wrap ((n:Int)+1)∧i64.wrap ((n:Int)+1)≤i64.wrap ((n:Int)+1)∧(8:Int)*i64.wrap ((n:Int)+1)≤140737488355328∧i64.wrap ((n:Int)+1)≤4611686018427387904∧1=1)(o2:CvL (List.replicate ((i64.wrap ((n:Int)+1)).toNat*1) (.cv (.lit (.int .i64 0))))){R:CV→Prop}(hR:Ok P 197 (loopHead P 197 0) ⟨J1 55 [(0,.cv (.lst n (j4 xs))),(1,.cv (.lst m (j4 ys))),(5,.sl 0 0 (i64.wrap ((n:Int)+1)).toNat 1),(6,.cv (.lit (.int .i64 0))),(7,.cv (.lit (.int .i64 0)))],[some (List.replicate ((i64.wrap ((n:Int)+1)).toNat*1) (.cv (.lit (.int .i64 0))))]⟩ (.of R)):Y3 P 197 [.lst n (j4 xs),.lst m (j4 ys)] R:=
 Z6 (keep:=[0,1,5,6,7]) (σ:=[0]) (.b 6 h1 (.c o1 (.o 14 .stop .nil))) (by kernel_rfl) rfl hR (.cons o2 .nil)
theorem zke(n m o c i:Nat)(xs ys zs:List Nat)(h1:decide ((i:Int)<n)=true)(h2:decide ((i:Int)<m)=true)(o1:(0:Int)≤i∧(i:Int)<n)(o2:(j4 xs)[(i:Int).toNat*1]?=some (.lit (.int .i64 ↑(xs.getD ((i:Int).toNat*1) 0))))(o5:(0:Int)≤i∧(i:Int)<m)(o6:(j4 ys)[(i:Int).toNat*1]?=some (.lit (.int .i64 ↑(ys.getD ((i:Int).toNat*1) 0))))(o9:(0:Int)≤i∧(i:Int)<o)(o10:0+(i:Int).toNat*1+1≤(own (j4 zs)).length)(o12:CvL (j6 (own (j4 zs)) (0+(i:Int).toNat*1) [.cv (.lit (.int .i64 ((i64.wrap (i64.wrap ((c:Int)+(↑(xs.getD ((i:Int).toNat*1) 0):Int))+(↑(ys.getD ((i:Int).toNat*1) 0):Int))).tmod 16777216)))])){R:Goal}(hn:j7 R.n [0]=true)(hR:Ok P 197 (loopHead P 197 0) ⟨J1 55 [(0,.cv (.lst n (j4 xs))),(1,.cv (.lst m (j4 ys))),(5,.sl 0 0 o 1),(6,.cv (.lit (.int .i64 (i64.wrap ((i64.wrap (i64.wrap ((c:Int)+(↑(xs.getD ((i:Int).toNat*1) 0):Int))+(↑(ys.getD ((i:Int).toNat*1) 0):Int))).tdiv 16777216))))),(7,.cv (.lit (.int .i64 (i64.wrap ((i:Int)+1)))))],[some (j6 (own (j4 zs)) (0+(i:Int).toNat*1) [.cv (.lit (.int .i64 ((i64.wrap (i64.wrap ((c:Int)+(↑(xs.getD ((i:Int).toNat*1) 0):Int))+(↑(ys.getD ((i:Int).toNat*1) 0):Int))).tmod 16777216)))])]⟩ R):Ok P 197 (loopHead P 197 0) ⟨J1 55 [(0,.cv (.lst n (j4 xs))),(1,.cv (.lst m (j4 ys))),(5,.sl 0 0 o 1),(6,.cv (j5 (c:Int))),(7,.cv (j5 (i:Int)))],[some (own (j4 zs))]⟩ R:=
 z07 (keep:=[0,1,5,6,7]) (σ:=[0]) (.b 5 h1 (.c o1 (.l 10 o2 (.c (eqn 1) (.b 17 h2 (.c o5 (.l 22 o6 (.c (eqn 1) (.c (nz 16777216) (.c o9 (.c o10 (.c (nz 16777216) (.o 37 .stop .nil))))))))))))) (by kernel_rfl) rfl hn hR (.cons o12 .nil)
theorem zlw(n m o c i:Nat)(xs ys zs:List Nat)(h1:decide ((i:Int)<n)=true)(h2:decide ((i:Int)<m)=false)(o1:(0:Int)≤i∧(i:Int)<n)(o2:(j4 xs)[(i:Int).toNat*1]?=some (.lit (.int .i64 ↑(xs.getD ((i:Int).toNat*1) 0))))(o6:(0:Int)≤i∧(i:Int)<o)(o7:0+(i:Int).toNat*1+1≤(own (j4 zs)).length)(o9:CvL (j6 (own (j4 zs)) (0+(i:Int).toNat*1) [.cv (.lit (.int .i64 ((i64.wrap ((c:Int)+(↑(xs.getD ((i:Int).toNat*1) 0):Int))).tmod 16777216)))])){R:Goal}(hn:j7 R.n [0]=true)(hR:Ok P 197 (loopHead P 197 0) ⟨J1 55 [(0,.cv (.lst n (j4 xs))),(1,.cv (.lst m (j4 ys))),(5,.sl 0 0 o 1),(6,.cv (.lit (.int .i64 (i64.wrap ((i64.wrap ((c:Int)+(↑(xs.getD ((i:Int).toNat*1) 0):Int))).tdiv 16777216))))),(7,.cv (.lit (.int .i64 (i64.wrap ((i:Int)+1)))))],[some (j6 (own (j4 zs)) (0+(i:Int).toNat*1) [.cv (.lit (.int .i64 ((i64.wrap ((c:Int)+(↑(xs.getD ((i:Int).toNat*1) 0):Int))).tmod 16777216)))])]⟩ R):Ok P 197 (loopHead P 197 0) ⟨J1 55 [(0,.cv (.lst n (j4 xs))),(1,.cv (.lst m (j4 ys))),(5,.sl 0 0 o 1),(6,.cv (j5 (c:Int))),(7,.cv (j5 (i:Int)))],[some (own (j4 zs))]⟩ R:=
 z07 (keep:=[0,1,5,6,7]) (σ:=[0]) (.b 5 h1 (.c o1 (.l 10 o2 (.c (eqn 1) (.b 17 h2 (.c (nz 16777216) (.c o6 (.c o7 (.c (nz 16777216) (.o 30 .stop .nil)))))))))) (by kernel_rfl) rfl hn hR (.cons o9 .nil)
theorem zkc(n m o c i:Nat)(xs ys zs:List Nat)(h1:decide ((i:Int)<n)=false)(a:o=(zs.set (0+(n:Int).toNat*1) c).length)(d:Dig 16777216 (zs.set (0+(n:Int).toNat*1) c))(e:(zs.set (0+(n:Int).toNat*1) c).length<2^62)(o1:(0:Int)≤n∧(n:Int)<o)(o2:0+(n:Int).toNat*1+1≤(own (j4 zs)).length)(o4:List.take (o*1) (List.drop 0 (j6 (own (j4 zs)) (0+(n:Int).toNat*1) [.cv (.lit (.int .i64 (c:Int)))]))=List.map MV.cv (j4 (zs.set (0+(n:Int).toNat*1) c))){R:Goal}(hR:R.c (.lst (dig 16777216 (val 16777216 (zs.set (0+(n:Int).toNat*1) c))).length (j4 (dig 16777216 (val 16777216 (zs.set (0+(n:Int).toNat*1) c)))))):Ok P 197 (loopHead P 197 0) ⟨J1 55 [(0,.cv (.lst n (j4 xs))),(1,.cv (.lst m (j4 ys))),(5,.sl 0 0 o 1),(6,.cv (j5 (c:Int))),(7,.cv (j5 (i:Int)))],[some (own (j4 zs))]⟩ R:=
 okT (.b 5 h1 (.c o1 (.c o2 (.rs 13 [j4 (zs.set (0+(n:Int).toNat*1) c)] (z0X o (zs.set (0+(n:Int).toNat*1) c) a d e) (.c o4 .nil))))) (by kernel_rfl) hR
def z1V(a b:Nat):Int:=if a<b then-1 else if a=b then 0 else 1
theorem z1G{x y:Nat}(h:(dig B24 x).length<(dig B24 y).length):x<y:=by
 rcases Nat.lt_or_ge x y with h'|h'
 · exact h'
 · have:=Q1 (by decide:2≤B24) (n:=y) (k:=(dig B24 x).length) (Nat.lt_of_le_of_lt h' (J8 (by decide) x))
   omega
theorem zab {R : Goal} (hn : j7 R.n [] = true) (xs ys : List Nat) (hl : xs.length = ys.length) (hlen : xs.length < 2 ^ 62) (hx : Dig B24 xs) (hy : Dig B24 ys) (hR : R.c (j5 (z1V (val B24 xs) (val B24 ys)))) :
    ∀k:Nat,k≤xs.length→xs.drop k=ys.drop k→
     Ok P 198 (loopHead P 198 0) ⟨J1 41 [(0,.cv (.lst xs.length (j4 xs))),(1,.cv (.lst xs.length (j4 ys))),(5,.cv (j5 ((k:Int)-1)))],[]⟩ R:=by
 intro k
 induction k with
 |zero=>
  intro _ hd
  simp only[List.drop_zero]at hd
  refine zh1 _ _ _ _ (by simp) ?_
  rw[hd,z1V,if_neg (Nat.lt_irrefl _),if_pos rfl]at hR
  exact hR
 |succ k ih=>
  intro hk hd
  have e0:((k+1:Nat):Int)-1=(k:Int):=by omega
  have e1:(k:Int).toNat*1=k:=by omega
  have gx:=Y2 (xs:=xs) (i:=(k:Int).toNat*1) (by omega)
  have gy:=Y2 (xs:=ys) (i:=(k:Int).toNat*1) (by omega)
  rw[e0]
  by_cases h1:xs.getD k 0<ys.getD k 0
  · have:=z1f hx (by decide) (by omega) hl hd h1
    rw[z1V,if_pos this]at hR
    exact zhA _ _ _ _ (by simp) (by rw[e1];exact bne_iff_ne.2 (by omega)) (by rw[e1];first|exact decide_eq_true (by omega)|exact decide_eq_false (by omega)) (by omega) gx (by omega) gy (by omega) gx (by omega) gy hR
  · by_cases h2:ys.getD k 0<xs.getD k 0
    · have:=z1f hy (by decide) (by omega) hl.symm hd.symm h2
      rw[z1V,if_neg (by omega),if_neg (by omega)]at hR
      exact zhs _ _ _ _ (by simp) (by rw[e1];exact bne_iff_ne.2 (by omega)) (by rw[e1];first|exact decide_eq_true (by omega)|exact decide_eq_false (by omega)) (by omega) gx (by omega) gy (by omega) gx (by omega) gy hR
    · refine zhF _ _ _ _ (by simp) (by rw[e1];exact bne_eq_false_iff_eq.2 (by omega)) (by omega) gx (by omega) gy hn ?_
      rw[w64 (by omega)]
      refine ih (by omega) ?_
      have a1:k<xs.length:=by omega
      have a2:k<ys.length:=by omega
      rw[List.drop_eq_getElem_cons a1,List.drop_eq_getElem_cons a2,hd]
      have:xs.getD k 0=ys.getD k 0:=by omega
      simp only[List.getD_eq_getElem?_getD,List.getElem?_eq_getElem a1,List.getElem?_eq_getElem a2,Option.getD_some]at this
      rw[this]
theorem z6b(a b:Nat)(ha:(dig B24 a).length<2^60)(_hb:(dig B24 b).length<2^60):PCall P 198 [z0r a,z0r b] (j5 (z1V a b)):=by
 by_cases h:(dig B24 a).length=(dig B24 b).length
 · refine Y6 (zlQ _ _ _ _ (by simp[h]) ?_)
   rw[w64 (by omega),←h]
   refine zab (R:= .of _) rfl _ _ h (by omega) (Y8 (by decide) _) (Y8 (by decide) _) ?_ _ (Nat.le_refl _) (by rw[List.drop_length,h,List.drop_length])
   rw[Q8 (by decide),Q8 (by decide)]
   rfl
 · by_cases h1:(dig B24 a).length<(dig B24 b).length
   · refine(zlz _ _ _ _ (by simp;omega) (decide_eq_true (by omega))).eq ?_
     rw[z1V,if_pos (z1G h1)]
   · refine(zkF _ _ _ _ (by simp;omega) (decide_eq_false (by omega))).eq ?_
     have:=z1G (x:=b) (y:=a) (by omega)
     rw[z1V,if_neg (by omega),if_neg (by omega)]
theorem z7M{s:Nat}(h:s<2^62):i64.wrap (s:Int)=(s:Int)∧(s:Int).tmod 16777216=((s%B24:Nat):Int)∧i64.wrap ((s:Int).tdiv 16777216)=((s/B24:Nat):Int):=by
 refine⟨w64 (by omega),?_,?_⟩
 · rw[Int.tmod_eq_emod_of_nonneg (by omega)];simp only[B24];omega
 · rw[Int.tdiv_eq_ediv_of_nonneg (by omega),w64 (by omega)];simp only[B24];omega
theorem zfv {R : Goal} (hn : j7 R.n [0] = true) (xs ys : List Nat) (hle : ys.length ≤ xs.length) (hlen : xs.length < 2 ^ 40) (hx : Dig B24 xs) (hy : Dig B24 ys) (hR : R.c (z0r (val B24 xs + val B24 ys))) :
    ∀(k i:Nat) (zs:List Nat) (c:Nat),xs.length-i=k→i≤xs.length→zs.length=xs.length+1→Dig B24 zs→c≤1→
     val B24 (zs.take i)+c*B24^i=val B24 (xs.take i)+val B24 (ys.take i)→
     Ok P 197 (loopHead P 197 0) ⟨J1 55 [(0,.cv (.lst xs.length (j4 xs))),(1,.cv (.lst ys.length (j4 ys))),(5,.sl 0 0 (xs.length+1) 1),(6,.cv (j5 (c:Int))),(7,.cv (j5 (i:Int)))],[some (own (j4 zs))]⟩ R:=by
 intro k
 induction k with
 |zero=>
  intro i zs c hk hi hz hd hc hv
  have:i=xs.length:=by omega
  subst this
  have e1:(0:Nat)+(xs.length:Int).toNat*1=xs.length:=by omega
  have hset:j6 (own (j4 zs)) xs.length [MV.cv (CV.lit (.int .i64 (c:Int)))]=own (j4 (zs.set xs.length c)):=Z3 (by omega)
  have hl2:(zs.set xs.length c).length=xs.length+1:=by simp[hz]
  refine zkc _ _ _ _ _ _ _ _ (by simp) (by rw[e1,hl2]) (by rw[e1];exact hd.set (by simp only[B24];omega) _) (by rw[e1,hl2];omega) (by omega) (by rw[e1,J4,Q9,hz];omega) ?_ ?_
  · rw[e1,hset];exact z17 (by rw[Q9,hl2])
  · rw[e1]
    have h1:val 16777216 (zs.set xs.length c)=val B24 xs+val B24 ys:=by
     rw[show(16777216:Nat)=B24 from rfl]
     have:=z06 (b:=B24) (xs:=zs) (i:=xs.length) (d:=c) (by omega)
     rw[List.take_of_length_le (by omega),Nat.mul_comm]at this
     rw[this,hv,List.take_length,z0o hle]
    rw[h1];exact hR
 |succ k ih=>
  intro i zs c hk hi hz hd hc hv
  have hlt:i<xs.length:=by omega
  have e1:(i:Int).toNat*1=i:=by omega
  have e2:(0:Nat)+(i:Int).toNat*1=i:=by omega
  have e3:i64.wrap ((i:Int)+1)=((i+1:Nat):Int):=by rw[w64 (by omega)];omega
  have gx:=Y2 (xs:=xs) (i:=(i:Int).toNat*1) (by omega)
  have dx:=hx.get (by decide) i
  have dy:=hy.get (by decide) i
  have key: ∀y':Nat,y'=ys.getD i 0→val B24 ((zs.set i ((xs.getD i 0+y'+c)%B24)).take (i+1))+(xs.getD i 0+y'+c)/B24*B24^(i+1)=val B24 (xs.take (i+1))+val B24 (ys.take (i+1)):=by
   intro y' hy'
   rw[z06 (by omega),Y0,Y0,←hy',Nat.pow_succ]
   exact z7l _ _ _ _ _ _ _ _ _ _ hv (Nat.mod_add_div _ _)
  have hcar: ∀y':Nat,y'<B24→(xs.getD i 0+y'+c)/B24≤1:=by intro y' h;simp only[B24]at*;omega
  have hdg: ∀s:Nat,s%B24<B24:=fun s=>Nat.mod_lt _ (by decide)
  by_cases hi2:i<ys.length
  · have gy:=Y2 (xs:=ys) (i:=(i:Int).toNat*1) (by omega)
    have hsum:i64.wrap (i64.wrap ((c:Int)+((xs.getD ((i:Int).toNat*1) 0:Nat):Int))+((ys.getD ((i:Int).toNat*1) 0:Nat):Int))=((xs.getD i 0+ys.getD i 0+c:Nat):Int):=by
     simp only[B24]at dx dy;rw[e1,w64 (n:=(c:Int)+_) (by omega),w64 (by omega)];omega
    obtain⟨s1,s2,s3⟩:=z7M (s:=xs.getD i 0+ys.getD i 0+c) (by simp only[B24]at dx dy;omega)
    have hset:j6 (own (j4 zs)) (0+(i:Int).toNat*1) [.cv (.lit (.int .i64 ((i64.wrap (i64.wrap ((c:Int)+((xs.getD ((i:Int).toNat*1) 0:Nat):Int))+((ys.getD ((i:Int).toNat*1) 0:Nat):Int))).tmod 16777216)))]=own (j4 (zs.set i ((xs.getD i 0+ys.getD i 0+c)%B24))):=by
     rw[hsum,s2,e2];exact Z3 (by omega)
    refine zke _ _ _ _ _ _ _ _ (by simpa using hlt) (by simpa using hi2) (by omega) gx (by omega) gy (by omega) (by rw[e2,J4,Q9];omega) (by rw[hset];exact J0 _) hn ?_
    rw[hset,hsum,s3,e3]
    exact ih (i+1) _ _ (by omega) (by omega) (by simpa using hz) (hd.set (hdg _) _) (hcar _ dy) (key _ rfl)
  · have hsum : i64.wrap ((c : Int) + ((xs.getD ((i : Int).toNat * 1) 0 : Nat) : Int)) = ((xs.getD i 0 + 0 + c : Nat) : Int) := by
      simp only[B24]at dx;rw[e1,w64 (by omega)];omega
    obtain⟨s1,s2,s3⟩:=z7M (s:=xs.getD i 0+0+c) (by simp only[B24]at dx;omega)
    have hset:j6 (own (j4 zs)) (0+(i:Int).toNat*1) [.cv (.lit (.int .i64 ((i64.wrap ((c:Int)+((xs.getD ((i:Int).toNat*1) 0:Nat):Int))).tmod 16777216)))]=own (j4 (zs.set i ((xs.getD i 0+0+c)%B24))):=by
     rw[hsum,s2,e2];exact Z3 (by omega)
    refine zlw _ _ _ _ _ _ _ _ (by simpa using hlt) (by simpa using hi2) (by omega) gx (by omega) (by rw[e2,J4,Q9];omega) (by rw[hset];exact J0 _) hn ?_
    rw[hset,hsum,s3,e3]
    exact ih (i+1) _ _ (by omega) (by omega) (by simpa using hz) (hd.set (hdg _) _) (hcar _ (by decide)) (key 0 (z3C (by omega)).symm)
theorem z4L(a b:Nat)(ha:(dig B24 a).length<2^40)(hb:(dig B24 b).length<2^40):PCall P 197 [z0r a,z0r b] (z0r (a+b)):=by
 have main : ∀ x y : Nat, (dig B24 y).length ≤ (dig B24 x).length → (dig B24 x).length < 2 ^ 40 → ∀ R : CV → Prop, R (z0r (x + y)) →
     Ok P 197 (loopHead P 197 0) ⟨J1 55 [(0,.cv (z0r x)),(1,.cv (z0r y)),(5,.sl 0 0 ((dig B24 x).length+1) 1),(6,.cv (j5 0)),(7,.cv (j5 0))],[some (own (j4 (List.replicate ((dig B24 x).length+1) 0)))]⟩ (.of R):=by
  intro x y hxy hx R hR
  exact zfv (R:= .of R) rfl (dig B24 x) (dig B24 y) hxy hx (Y8 (by decide) _) (Y8 (by decide) _) (by rw[Q8 (by decide),Q8 (by decide)];exact hR) _ 0
   (List.replicate ((dig B24 x).length+1) 0) 0 rfl (Nat.zero_le _) (by simp) (Dig.replicate (by decide) _) (by omega) (by simp[val])
 have e: ∀n:Nat,n<2^40→i64.wrap ((n:Int)+1)=((n+1:Nat):Int):=by intro n hn;rw[w64 (by omega)];omega
 by_cases h:(dig B24 a).length<(dig B24 b).length
 · refine Y6 (zo2 _ _ _ _ (by simpa using h) (by rw[e _ hb];omega) (by rw[U0];exact J0 _) ?_)
   rw[U0,e _ hb,show((((dig B24 b).length+1:Nat):Int)).toNat=(dig B24 b).length+1 by omega,Nat.mul_one]
   exact main b a (by omega) hb _ (by rw[Nat.add_comm])
 · refine Y6 (zrC _ _ _ _ (by simpa using h) (by rw[e _ ha];omega) (by rw[U0];exact J0 _) ?_)
   rw[U0,e _ ha,show((((dig B24 a).length+1:Nat):Int)).toNat=(dig B24 a).length+1 by omega,Nat.mul_one]
   exact main a b (by omega) ha _ rfl
theorem znc(n m:Nat)(xs ys:List Nat)(o0:(0:Int)≤n∧(n:Int)≤n∧(8:Int)*n≤140737488355328∧(n:Int)≤4611686018427387904∧1=1)(o1:CvL (List.replicate ((n:Int).toNat*1) (.cv (.lit (.int .i64 0))))){Q:MV→List CV→Prop}(hR:Ok P 199 (loopHead P 199 0) ⟨J1 44 [(0,.cv (.lst n (j4 xs))),(1,.cv (.lst m (j4 ys))),(5,.sl 0 0 (n:Int).toNat 1),(6,.cv (.lit (.int .i64 0))),(7,.cv (.lit (.int .i64 0)))],[some (List.replicate ((n:Int).toNat*1) (.cv (.lit (.int .i64 0))))]⟩ (.fresh (z46 Q))):z59 P 199 [.lst n (j4 xs),.lst m (j4 ys)] Q:=
 zaA (keep:=[0,1,5,6,7]) (σ:=[0]) (ors:=[(7,.stop)]) (by kernel_rfl) rfl (.cons o0 (.cons o1 .nil)) hR
theorem ziJ(n m o c i:Nat)(xs ys zs:List Nat)(h1:decide ((i:Int)<n)=true)(h2:decide ((i:Int)<m)=true)(h3:decide (i64.wrap (i64.wrap ((↑(xs.getD ((i:Int).toNat*1) 0):Int)-c)-(↑(ys.getD ((i:Int).toNat*1) 0):Int))<0)=true)(o1:(0:Int)≤i∧(i:Int)<n)(o2:(j4 xs)[(i:Int).toNat*1]?=some (.lit (.int .i64 ↑(xs.getD ((i:Int).toNat*1) 0))))(o5:(0:Int)≤i∧(i:Int)<m)(o6:(j4 ys)[(i:Int).toNat*1]?=some (.lit (.int .i64 ↑(ys.getD ((i:Int).toNat*1) 0))))(o9:(0:Int)≤i∧(i:Int)<o)(o10:0+(i:Int).toNat*1+1≤(own (j4 zs)).length)(o11:CvL (j6 (own (j4 zs)) (0+(i:Int).toNat*1) [.cv (.lit (.int .i64 (i64.wrap (i64.wrap (i64.wrap ((↑(xs.getD ((i:Int).toNat*1) 0):Int)-c)-(↑(ys.getD ((i:Int).toNat*1) 0):Int))+16777216))))])){R:Goal}(hn:j7 R.n [0]=true)(hR:Ok P 199 (loopHead P 199 0) ⟨J1 44 [(0,.cv (.lst n (j4 xs))),(1,.cv (.lst m (j4 ys))),(5,.sl 0 0 o 1),(6,.cv (.lit (.int .i64 1))),(7,.cv (.lit (.int .i64 (i64.wrap ((i:Int)+1)))))],[some (j6 (own (j4 zs)) (0+(i:Int).toNat*1) [.cv (.lit (.int .i64 (i64.wrap (i64.wrap (i64.wrap ((↑(xs.getD ((i:Int).toNat*1) 0):Int)-c)-(↑(ys.getD ((i:Int).toNat*1) 0):Int))+16777216))))])]⟩ R):Ok P 199 (loopHead P 199 0) ⟨J1 44 [(0,.cv (.lst n (j4 xs))),(1,.cv (.lst m (j4 ys))),(5,.sl 0 0 o 1),(6,.cv (j5 (c:Int))),(7,.cv (j5 (i:Int)))],[some (own (j4 zs))]⟩ R:=
 z1z (m:=1) (keep:=[0,1,5,6,7]) (σ:=[0]) (.b 5 h1 (.c o1 (.l 9 o2 (.c (eqn 1) (.b 17 h2 (.c o5 (.l 22 o6 (.c (eqn 1) (.b 28 h3 (.c o9 (.c o10 (.o 41 .stop .nil)))))))))))) (by kernel_rfl) rfl hn hR (.cons o11 .nil)
theorem zmM(n m o c i:Nat)(xs ys zs:List Nat)(h1:decide ((i:Int)<n)=true)(h2:decide ((i:Int)<m)=true)(h3:decide (i64.wrap (i64.wrap ((↑(xs.getD ((i:Int).toNat*1) 0):Int)-c)-(↑(ys.getD ((i:Int).toNat*1) 0):Int))<0)=false)(o1:(0:Int)≤i∧(i:Int)<n)(o2:(j4 xs)[(i:Int).toNat*1]?=some (.lit (.int .i64 ↑(xs.getD ((i:Int).toNat*1) 0))))(o5:(0:Int)≤i∧(i:Int)<m)(o6:(j4 ys)[(i:Int).toNat*1]?=some (.lit (.int .i64 ↑(ys.getD ((i:Int).toNat*1) 0))))(o9:(0:Int)≤i∧(i:Int)<o)(o10:0+(i:Int).toNat*1+1≤(own (j4 zs)).length)(o11:CvL (j6 (own (j4 zs)) (0+(i:Int).toNat*1) [.cv (.lit (.int .i64 (i64.wrap (i64.wrap ((↑(xs.getD ((i:Int).toNat*1) 0):Int)-c)-(↑(ys.getD ((i:Int).toNat*1) 0):Int)))))])){R:Goal}(hn:j7 R.n [0]=true)(hR:Ok P 199 (loopHead P 199 0) ⟨J1 44 [(0,.cv (.lst n (j4 xs))),(1,.cv (.lst m (j4 ys))),(5,.sl 0 0 o 1),(6,.cv (.lit (.int .i64 0))),(7,.cv (.lit (.int .i64 (i64.wrap ((i:Int)+1)))))],[some (j6 (own (j4 zs)) (0+(i:Int).toNat*1) [.cv (.lit (.int .i64 (i64.wrap (i64.wrap ((↑(xs.getD ((i:Int).toNat*1) 0):Int)-c)-(↑(ys.getD ((i:Int).toNat*1) 0):Int)))))])]⟩ R):Ok P 199 (loopHead P 199 0) ⟨J1 44 [(0,.cv (.lst n (j4 xs))),(1,.cv (.lst m (j4 ys))),(5,.sl 0 0 o 1),(6,.cv (j5 (c:Int))),(7,.cv (j5 (i:Int)))],[some (own (j4 zs))]⟩ R:=
 z1z (m:=1) (keep:=[0,1,5,6,7]) (σ:=[0]) (.b 5 h1 (.c o1 (.l 9 o2 (.c (eqn 1) (.b 17 h2 (.c o5 (.l 22 o6 (.c (eqn 1) (.b 28 h3 (.c o9 (.c o10 (.o 37 .stop .nil)))))))))))) (by kernel_rfl) rfl hn hR (.cons o11 .nil)
theorem zj4(n m o c i:Nat)(xs ys zs:List Nat)(h1:decide ((i:Int)<n)=true)(h2:decide ((i:Int)<m)=false)(h3:decide (i64.wrap ((↑(xs.getD ((i:Int).toNat*1) 0):Int)-c)<0)=true)(o1:(0:Int)≤i∧(i:Int)<n)(o2:(j4 xs)[(i:Int).toNat*1]?=some (.lit (.int .i64 ↑(xs.getD ((i:Int).toNat*1) 0))))(o6:(0:Int)≤i∧(i:Int)<o)(o7:0+(i:Int).toNat*1+1≤(own (j4 zs)).length)(o8:CvL (j6 (own (j4 zs)) (0+(i:Int).toNat*1) [.cv (.lit (.int .i64 (i64.wrap (i64.wrap ((↑(xs.getD ((i:Int).toNat*1) 0):Int)-c)+16777216))))])){R:Goal}(hn:j7 R.n [0]=true)(hR:Ok P 199 (loopHead P 199 0) ⟨J1 44 [(0,.cv (.lst n (j4 xs))),(1,.cv (.lst m (j4 ys))),(5,.sl 0 0 o 1),(6,.cv (.lit (.int .i64 1))),(7,.cv (.lit (.int .i64 (i64.wrap ((i:Int)+1)))))],[some (j6 (own (j4 zs)) (0+(i:Int).toNat*1) [.cv (.lit (.int .i64 (i64.wrap (i64.wrap ((↑(xs.getD ((i:Int).toNat*1) 0):Int)-c)+16777216))))])]⟩ R):Ok P 199 (loopHead P 199 0) ⟨J1 44 [(0,.cv (.lst n (j4 xs))),(1,.cv (.lst m (j4 ys))),(5,.sl 0 0 o 1),(6,.cv (j5 (c:Int))),(7,.cv (j5 (i:Int)))],[some (own (j4 zs))]⟩ R:=
 z1z (m:=1) (keep:=[0,1,5,6,7]) (σ:=[0]) (.b 5 h1 (.c o1 (.l 9 o2 (.c (eqn 1) (.b 17 h2 (.b 21 h3 (.c o6 (.c o7 (.o 34 .stop .nil))))))))) (by kernel_rfl) rfl hn hR (.cons o8 .nil)
theorem zlc(n m o c i:Nat)(xs ys zs:List Nat)(h1:decide ((i:Int)<n)=true)(h2:decide ((i:Int)<m)=false)(h3:decide (i64.wrap ((↑(xs.getD ((i:Int).toNat*1) 0):Int)-c)<0)=false)(o1:(0:Int)≤i∧(i:Int)<n)(o2:(j4 xs)[(i:Int).toNat*1]?=some (.lit (.int .i64 ↑(xs.getD ((i:Int).toNat*1) 0))))(o6:(0:Int)≤i∧(i:Int)<o)(o7:0+(i:Int).toNat*1+1≤(own (j4 zs)).length)(o8:CvL (j6 (own (j4 zs)) (0+(i:Int).toNat*1) [.cv (.lit (.int .i64 (i64.wrap ((↑(xs.getD ((i:Int).toNat*1) 0):Int)-c))))])){R:Goal}(hn:j7 R.n [0]=true)(hR:Ok P 199 (loopHead P 199 0) ⟨J1 44 [(0,.cv (.lst n (j4 xs))),(1,.cv (.lst m (j4 ys))),(5,.sl 0 0 o 1),(6,.cv (.lit (.int .i64 0))),(7,.cv (.lit (.int .i64 (i64.wrap ((i:Int)+1)))))],[some (j6 (own (j4 zs)) (0+(i:Int).toNat*1) [.cv (.lit (.int .i64 (i64.wrap ((↑(xs.getD ((i:Int).toNat*1) 0):Int)-c))))])]⟩ R):Ok P 199 (loopHead P 199 0) ⟨J1 44 [(0,.cv (.lst n (j4 xs))),(1,.cv (.lst m (j4 ys))),(5,.sl 0 0 o 1),(6,.cv (j5 (c:Int))),(7,.cv (j5 (i:Int)))],[some (own (j4 zs))]⟩ R:=
 z1z (m:=1) (keep:=[0,1,5,6,7]) (σ:=[0]) (.b 5 h1 (.c o1 (.l 9 o2 (.c (eqn 1) (.b 17 h2 (.b 21 h3 (.c o6 (.c o7 (.o 30 .stop .nil))))))))) (by kernel_rfl) rfl hn hR (.cons o8 .nil)
theorem zlR(n m o c i:Nat)(xs ys zs:List Nat)(h1:decide ((i:Int)<n)=false)(a:o=zs.length)(d:zs.length<2^62)(o2:BlksCv [some (own (j4 zs)),some (own (j4 zs))]){R:Goal}(hn:R.Fresh)(hR:R.m (.sl 0 0 (tz zs).length 1) [some (own (j4 zs))]):Ok P 199 (loopHead P 199 0) ⟨J1 44 [(0,.cv (.lst n (j4 xs))),(1,.cv (.lst m (j4 ys))),(5,.sl 0 0 o 1),(6,.cv (j5 (c:Int))),(7,.cv (j5 (i:Int)))],[some (own (j4 zs))]⟩ R:=
 zsy 1 (ors:=[(5,.b false),(7,.m [0] (.sl 0 0 (tz zs).length 1) [some (own (j4 zs))]),(9,.m [0] MV.unk [])]) (by kernel_rfl) (.cons h1 (.cons (z6M o zs a d) (.cons o2 (.cons (show CvL (own (j4 zs))from(J0 _)) .nil)))) hn hR
theorem zcc {R : Goal} (hn : j7 R.n [0] = true) (hF : R.Fresh) (xs ys : List Nat) (hle : ys.length ≤ xs.length) (hlen : xs.length < 2 ^ 40) (hx : Dig B24 xs) (hy : Dig B24 ys) (hv0 : val B24 ys ≤ val B24 xs)
    (hR: ∀zs:List Nat,zs.length=xs.length→Dig B24 zs→val B24 zs=val B24 xs-val B24 ys→R.m (.sl 0 0 (tz zs).length 1) [some (own (j4 zs))]):
    ∀(k i:Nat) (zs:List Nat) (c:Nat),xs.length-i=k→i≤xs.length→zs.length=xs.length→Dig B24 zs→c≤1→
     val B24 (zs.take i)+val B24 (ys.take i)=val B24 (xs.take i)+c*B24^i→
     Ok P 199 (loopHead P 199 0) ⟨J1 44 [(0,.cv (.lst xs.length (j4 xs))),(1,.cv (.lst ys.length (j4 ys))),(5,.sl 0 0 xs.length 1),(6,.cv (j5 (c:Int))),(7,.cv (j5 (i:Int)))],[some (own (j4 zs))]⟩ R:=by
 intro k
 induction k with
 |zero=>
  intro i zs c hk hi hz hd hc hv
  have:i=xs.length:=by omega
  subst this
  refine zlR _ _ _ _ _ _ _ _ (by simp) hz.symm (by omega) (BlksCv.two (J0 _) (J0 _)) hF (hR zs hz hd ?_)
  rw[List.take_of_length_le (by omega),List.take_length,z0o hle]at hv
  have hzl:=z0I (by decide:0<B24) zs hd
  rw[hz]at hzl
  have hc0:c=0∨c=1:=by omega
  rcases hc0 with rfl|rfl
  · omega
  · omega
 |succ k ih=>
  intro i zs c hk hi hz hd hc hv
  have hlt:i<xs.length:=by omega
  have e1:(i:Int).toNat*1=i:=by omega
  have e2:(0:Nat)+(i:Int).toNat*1=i:=by omega
  have e3:i64.wrap ((i:Int)+1)=((i+1:Nat):Int):=by rw[w64 (by omega)];omega
  have gx:=Y2 (xs:=xs) (i:=(i:Int).toNat*1) (by omega)
  have dx:=hx.get (by decide) i
  have dy:=hy.get (by decide) i
  have hdg: ∀s:Nat,s%B24<B24:=fun s=>Nat.mod_lt _ (by decide)
  have key: ∀y' d c':Nat,y'=ys.getD i 0→d+y'+c=xs.getD i 0+B24*c'→val B24 ((zs.set i d).take (i+1))+val B24 (ys.take (i+1))=val B24 (xs.take (i+1))+c'*B24^(i+1):=by
   intro y' d c' hy' h
   rw[z06 (by omega),Y0,Y0,←hy',Nat.pow_succ]
   exact z8f _ _ _ _ _ _ _ _ _ _ hv h
  have hset: ∀d:Nat,j6 (own (j4 zs)) (0+(i:Int).toNat*1) [.cv (.lit (.int .i64 (d:Int)))]=own (j4 (zs.set i d)):=by
   intro d;rw[e2];exact Z3 (by omega)
  simp only[B24]at dx dy
  by_cases hi2:i<ys.length
  · have gy:=Y2 (xs:=ys) (i:=(i:Int).toNat*1) (by omega)
    have hs:i64.wrap (i64.wrap (((xs.getD ((i:Int).toNat*1) 0:Nat):Int)-(c:Int))-((ys.getD ((i:Int).toNat*1) 0:Nat):Int))=(xs.getD i 0:Int)-c-ys.getD i 0:=by
     rw[e1,w64 (n:=(xs.getD i 0:Int)-(c:Int)) (by omega),w64 (by omega)]
    by_cases hneg:xs.getD i 0<c+ys.getD i 0
    · have hw : i64.wrap (i64.wrap (i64.wrap (((xs.getD ((i : Int).toNat * 1) 0 : Nat) : Int) - (c : Int)) - ((ys.getD ((i : Int).toNat * 1) 0 : Nat) : Int)) + 16777216) = ((xs.getD i 0 + 16777216 - c - ys.getD i 0 : Nat) : Int) := by
        rw[hs,w64 (by omega)];omega
      refine ziJ _ _ _ _ _ _ _ _ (decide_eq_true (by omega)) (decide_eq_true (by omega)) (decide_eq_true (by rw[hs];omega)) (by omega) gx (by omega) gy (by omega) (by rw[e2,J4,Q9];omega) (by rw[hw,hset];exact J0 _) hn ?_
      rw[hw,hset,e3]
      exact ih (i+1) _ 1 (by omega) (by omega) (by simpa using hz) (hd.set (by simp only[B24];omega) _) (by omega) (key _ _ 1 rfl (by simp only[B24];omega))
    · have hw : i64.wrap (i64.wrap (((xs.getD ((i : Int).toNat * 1) 0 : Nat) : Int) - (c : Int)) - ((ys.getD ((i : Int).toNat * 1) 0 : Nat) : Int)) = ((xs.getD i 0 - c - ys.getD i 0 : Nat) : Int) := by
        rw[hs];omega
      refine zmM _ _ _ _ _ _ _ _ (decide_eq_true (by omega)) (decide_eq_true (by omega)) (decide_eq_false (by rw[hs];omega)) (by omega) gx (by omega) gy (by omega) (by rw[e2,J4,Q9];omega) (by rw[hw,hset];exact J0 _) hn ?_
      rw[hw,hset,e3]
      exact ih (i+1) _ 0 (by omega) (by omega) (by simpa using hz) (hd.set (by simp only[B24];omega) _) (by omega) (key _ _ 0 rfl (by omega))
  · have hy0:ys.getD i 0=0:=z3C (by omega)
    have hs:i64.wrap (((xs.getD ((i:Int).toNat*1) 0:Nat):Int)-(c:Int))=(xs.getD i 0:Int)-c:=by rw[e1,w64 (by omega)]
    by_cases hneg:xs.getD i 0<c
    · have hw : i64.wrap (i64.wrap (((xs.getD ((i : Int).toNat * 1) 0 : Nat) : Int) - (c : Int)) + 16777216) = ((xs.getD i 0 + 16777216 - c : Nat) : Int) := by
        rw[hs,w64 (by omega)];omega
      refine zj4 _ _ _ _ _ _ _ _ (decide_eq_true (by omega)) (decide_eq_false (by omega)) (decide_eq_true (by rw[hs];omega)) (by omega) gx (by omega) (by rw[e2,J4,Q9];omega) (by rw[hw,hset];exact J0 _) hn ?_
      rw[hw,hset,e3]
      exact ih (i+1) _ 1 (by omega) (by omega) (by simpa using hz) (hd.set (by simp only[B24];omega) _) (by omega) (key 0 _ 1 hy0.symm (by simp only[B24];omega))
    · have hw:i64.wrap (((xs.getD ((i:Int).toNat*1) 0:Nat):Int)-(c:Int))=((xs.getD i 0-c:Nat):Int):=by rw[hs];omega
      refine zlc _ _ _ _ _ _ _ _ (decide_eq_true (by omega)) (decide_eq_false (by omega)) (decide_eq_false (by rw[hs];omega)) (by omega) gx (by omega) (by rw[e2,J4,Q9];omega) (by rw[hw,hset];exact J0 _) hn ?_
      rw[hw,hset,e3]
      exact ih (i+1) _ 0 (by omega) (by omega) (by simpa using hz) (hd.set (by simp only[B24];omega) _) (by omega) (key 0 _ 0 hy0.symm (by omega))
theorem z4K{b:Nat}(hb:0<b): ∀(zs:List Nat),Dig b zs→zs=Z1 b zs.length (val b zs):=fun zs hd=>(z0D hb zs hd).symm
theorem z6J(a b:Nat)(ha:(dig B24 a).length<2^40)(hb:b≤a):FCall P 199 [z0r a,z0r b] (.sl 0 0 (dig B24 (a-b)).length 1) (j4 (Z1 B24 (dig B24 a).length (a-b))):=by
 have e:((dig B24 a).length:Int).toNat*1=(dig B24 a).length:=by omega
 refine znc _ _ _ _ (by omega) (by rw[U0];exact J0 _) ?_
 rw[U0,e,Int.toNat_natCast]
 refine zcc (R:= .fresh _) rfl ⟨rfl,rfl⟩ (dig B24 a) (dig B24 b) (Z7 (by decide) hb) ha (Y8 (by decide) _) (Y8 (by decide) _) (by rw[Q8 (by decide),Q8 (by decide)];exact hb) ?_ _ 0
  (List.replicate (dig B24 a).length 0) 0 rfl (Nat.zero_le _) (by simp) (Dig.replicate (by decide) _) (by omega) (by simp[val])
 intro zs hz hd hv
 rw[Q8 (by decide),Q8 (by decide)]at hv
 have h1:=z4K (by decide:0<B24) zs hd
 rw[hz,hv]at h1
 have h2:=z0M (by decide:2≤B24) zs hd
 rw[hv]at h2
 refine⟨j4 zs,rfl,?_,?_⟩
 · rw[h2]
 · rw[←h1]
theorem zrK(j n:Nat)(xs:List Nat){Q:MV→List Blk→Prop}(hR:Ok P 234 (loopHead P 234 0) ⟨J1 21 [(0,.sl 0 j n 1)],[some (own (j4 xs))]⟩ (.lent [some (own (j4 xs))].length Q)):z3m P 234 [some (own (j4 xs))] [.sl 0 j n 1] Q:=
 z90 (keep:=[0]) (σ:=[0]) (ors:=[(1,.stop)]) (by kernel_rfl) rfl (.cons (show CvL (own (j4 xs))from(J0 _)) .nil) rfl hR
theorem zkY(j n:Nat)(xs:List Nat)(h1:decide ((n:Int)>0)=true)(h2:((↑(xs.getD (j+(i64.wrap ((n:Int)-1)).toNat*1) 0):Int)==0)=true)(o1:(0:Int)≤i64.wrap ((n:Int)-1)∧i64.wrap ((n:Int)-1)<(n:Int))(o2:(own (j4 xs))[j+(i64.wrap ((n:Int)-1)).toNat*1]?=some (.cv (.lit (.int .i64 (↑(xs.getD (j+(i64.wrap ((n:Int)-1)).toNat*1) 0):Int)))))(o5:(0:Int)≤0∧(0:Int)≤i64.wrap ((n:Int)-1)∧i64.wrap ((n:Int)-1)≤(n:Int)∧((0:Int)=0∨(0:Int)<i64.wrap ((n:Int)-1))){R:Goal}(hn:j7 R.n [0]=true)(hR:Ok P 234 (loopHead P 234 0) ⟨J1 21 [(0,.sl 0 (j+0) (i64.wrap ((n:Int)-1)-0).toNat 1)],[some (own (j4 xs))]⟩ R):Ok P 234 (loopHead P 234 0) ⟨J1 21 [(0,.sl 0 j n 1)],[some (own (j4 xs))]⟩ R:=
 z1z (m:=1) (keep:=[0]) (σ:=[0]) (.b 4 h1 (.c o1 (.e 10 o2 (.c (eqn 1) (.b 13 h2 (.c o5 (.o 20 .stop .nil))))))) (by kernel_rfl) rfl hn hR (.cons (J0 _) .nil)
theorem zlZ(j n:Nat)(xs:List Nat)(h1:decide ((n:Int)>0)=true)(h2:((↑(xs.getD (j+(i64.wrap ((n:Int)-1)).toNat*1) 0):Int)==0)=false)(o1:(0:Int)≤i64.wrap ((n:Int)-1)∧i64.wrap ((n:Int)-1)<(n:Int))(o2:(own (j4 xs))[j+(i64.wrap ((n:Int)-1)).toNat*1]?=some (.cv (.lit (.int .i64 (↑(xs.getD (j+(i64.wrap ((n:Int)-1)).toNat*1) 0):Int)))))(o6:BlksCv [some (own (j4 xs))]){R:Goal}(hn:R.Lent 1)(hR:R.m (.sl 0 j n 1) [some (own (j4 xs))]):Ok P 234 (loopHead P 234 0) ⟨J1 21 [(0,.sl 0 j n 1)],[some (own (j4 xs))]⟩ R:=
 zhU (ors:=[(4,.b true),(10,.e (.cv (.lit (.int .i64 (↑(xs.getD (j+(i64.wrap ((n:Int)-1)).toNat*1) 0):Int))))),(13,.b false),(16,.a)]) (by kernel_rfl) (.cons h1 (.cons o1 (.cons o2 (.cons (eqn 1) (.cons h2 (.cons (lq 1 1) (.cons o6 .nil))))))) hn hR
theorem zkn(j n:Nat)(xs:List Nat)(h1:decide ((n:Int)>0)=false)(o2:BlksCv [some (own (j4 xs))]){R:Goal}(hn:R.Lent 1)(hR:R.m (.sl 0 j n 1) [some (own (j4 xs))]):Ok P 234 (loopHead P 234 0) ⟨J1 21 [(0,.sl 0 j n 1)],[some (own (j4 xs))]⟩ R:=
 zhU (ors:=[(4,.b false),(16,.a)]) (by kernel_rfl) (.cons h1 (.cons (lq 1 1) (.cons o2 .nil))) hn hR
end Go.Fw
