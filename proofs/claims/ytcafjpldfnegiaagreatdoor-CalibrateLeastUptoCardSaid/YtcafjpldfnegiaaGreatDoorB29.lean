/- A part of the proof that the law returns true for every input: an executor for the model's code, and what functions of the program compute. -/
import Derived.Test.YtcafjpldfnegiaaGreatDoorB11
import Derived.Test.YtcafjpldfnegiaaGreatDoorB15
import Derived.Test.YtcafjpldfnegiaaGreatDoorB28
import Derived.KernelRfl
open Go
namespace Go.Fw
set_option maxRecDepth 100000
theorem z6Y{s:Nat}(h:s<2^62):IntKind.i64.wrap (s:Int)=(s:Int)∧(s:Int).tmod 16777216=((s%B24:Nat):Int)∧IntKind.i64.wrap ((s:Int).tdiv 16777216)=((s/B24:Nat):Int):=by
 refine⟨w64 (by omega),?_,?_⟩
 · rw[Int.tmod_eq_emod_of_nonneg (by omega)];simp only[B24];omega
 · rw[Int.tdiv_eq_ediv_of_nonneg (by omega),w64 (by omega)];simp only[B24];omega
theorem zcC {R : Goal} (hn : J0 R.n [0] = true) (xs ys : List Nat) (hle : ys.length ≤ xs.length) (hlen : xs.length < 2 ^ 40) (hx : Dig B24 xs) (hy : Dig B24 ys) (hR : R.c (z1X (val B24 xs + val B24 ys))) :
    ∀(k i:Nat) (zs:List Nat) (c:Nat),xs.length-i=k→i≤xs.length→zs.length=xs.length+1→Dig B24 zs→c≤1→
     val B24 (zs.take i)+c*B24^i=val B24 (xs.take i)+val B24 (ys.take i)→
     Ok P 197 (loopHead P 197 0) ⟨J3 55 [(0,.cv (.lst xs.length (j3 xs))),(1,.cv (.lst ys.length (j3 ys))),(5,.sl 0 0 (xs.length+1) 1),(6,.cv (j6 (c:Int))),(7,.cv (j6 (i:Int)))],[some (own (j3 zs))]⟩ R:=by
 intro k
 induction k with
 |zero=>
  intro i zs c hk hi hz hd hc hv
  have:i=xs.length:=by omega
  subst this
  have e1:(0:Nat)+(xs.length:Int).toNat*1=xs.length:=by omega
  have hset:j4 (own (j3 zs)) xs.length [MV.cv (CV.lit (.int .i64 (c:Int)))]=own (j3 (zs.set xs.length c)):=Q8 (by omega)
  have hl2:(zs.set xs.length c).length=xs.length+1:=by simp[hz]
  refine zjR _ _ _ _ _ _ _ _ (by simp) (by rw[e1,hl2]) (by rw[e1];exact hd.set (by simp only[B24];omega) _) (by rw[e1,hl2];omega) (by omega) (by rw[e1,J1,Q5,hz];omega) ?_ ?_
  · rw[e1,hset];exact z0R (by rw[Q5,hl2])
  · rw[e1]
    have h1:val 16777216 (zs.set xs.length c)=val B24 xs+val B24 ys:=by
     rw[show(16777216:Nat)=B24 from rfl]
     have:=U8 (b:=B24) (xs:=zs) (i:=xs.length) (d:=c) (by omega)
     rw[List.take_of_length_le (by omega),Nat.mul_comm]at this
     rw[this,hv,List.take_length,z0a hle]
    rw[h1];exact hR
 |succ k ih=>
  intro i zs c hk hi hz hd hc hv
  have hlt:i<xs.length:=by omega
  have e1:(i:Int).toNat*1=i:=by omega
  have e2:(0:Nat)+(i:Int).toNat*1=i:=by omega
  have e3:IntKind.i64.wrap ((i:Int)+1)=((i+1:Nat):Int):=by rw[w64 (by omega)];omega
  have gx:=Z8 (xs:=xs) (i:=(i:Int).toNat*1) (by omega)
  have dx:=hx.get (by decide) i
  have dy:=hy.get (by decide) i
  have key: ∀y':Nat,y'=ys.getD i 0→val B24 ((zs.set i ((xs.getD i 0+y'+c)%B24)).take (i+1))+(xs.getD i 0+y'+c)/B24*B24^(i+1)=val B24 (xs.take (i+1))+val B24 (ys.take (i+1)):=by
   intro y' hy'
   rw[U8 (by omega),Z7,Z7,←hy',Nat.pow_succ]
   exact z6V _ _ _ _ _ _ _ _ _ _ hv (Nat.mod_add_div _ _)
  have hcar: ∀y':Nat,y'<B24→(xs.getD i 0+y'+c)/B24≤1:=by intro y' h;simp only[B24]at*;omega
  have hdg: ∀s:Nat,s%B24<B24:=fun s=>Nat.mod_lt _ (by decide)
  by_cases hi2:i<ys.length
  · have gy:=Z8 (xs:=ys) (i:=(i:Int).toNat*1) (by omega)
    have hsum:IntKind.i64.wrap (IntKind.i64.wrap ((c:Int)+((xs.getD ((i:Int).toNat*1) 0:Nat):Int))+((ys.getD ((i:Int).toNat*1) 0:Nat):Int))=((xs.getD i 0+ys.getD i 0+c:Nat):Int):=by
     simp only[B24]at dx dy;rw[e1,w64 (n:=(c:Int)+_) (by omega),w64 (by omega)];omega
    obtain⟨s1,s2,s3⟩:=z6Y (s:=xs.getD i 0+ys.getD i 0+c) (by simp only[B24]at dx dy;omega)
    have hset:j4 (own (j3 zs)) (0+(i:Int).toNat*1) [.cv (.lit (.int .i64 ((IntKind.i64.wrap (IntKind.i64.wrap ((c:Int)+((xs.getD ((i:Int).toNat*1) 0:Nat):Int))+((ys.getD ((i:Int).toNat*1) 0:Nat):Int))).tmod 16777216)))]=own (j3 (zs.set i ((xs.getD i 0+ys.getD i 0+c)%B24))):=by
     rw[hsum,s2,e2];exact Q8 (by omega)
    refine zi8 _ _ _ _ _ _ _ _ (by simpa using hlt) (by simpa using hi2) (by omega) gx (by omega) gy (by omega) (by rw[e2,J1,Q5];omega) (by rw[hset];exact j9 _) hn ?_
    rw[hset,hsum,s3,e3]
    exact ih (i+1) _ _ (by omega) (by omega) (by simpa using hz) (hd.set (hdg _) _) (hcar _ dy) (key _ rfl)
  · have hsum : IntKind.i64.wrap ((c : Int) + ((xs.getD ((i : Int).toNat * 1) 0 : Nat) : Int)) = ((xs.getD i 0 + 0 + c : Nat) : Int) := by
      simp only[B24]at dx;rw[e1,w64 (by omega)];omega
    obtain⟨s1,s2,s3⟩:=z6Y (s:=xs.getD i 0+0+c) (by simp only[B24]at dx;omega)
    have hset:j4 (own (j3 zs)) (0+(i:Int).toNat*1) [.cv (.lit (.int .i64 ((IntKind.i64.wrap ((c:Int)+((xs.getD ((i:Int).toNat*1) 0:Nat):Int))).tmod 16777216)))]=own (j3 (zs.set i ((xs.getD i 0+0+c)%B24))):=by
     rw[hsum,s2,e2];exact Q8 (by omega)
    refine zkp _ _ _ _ _ _ _ _ (by simpa using hlt) (by simpa using hi2) (by omega) gx (by omega) (by rw[e2,J1,Q5];omega) (by rw[hset];exact j9 _) hn ?_
    rw[hset,hsum,s3,e3]
    exact ih (i+1) _ _ (by omega) (by omega) (by simpa using hz) (hd.set (hdg _) _) (hcar _ (by decide)) (key 0 (z3j (by omega)).symm)
theorem z6E(a b:Nat)(ha:(dig B24 a).length<2^40)(hb:(dig B24 b).length<2^40):PCall P 197 [z1X a,z1X b] (z1X (a+b)):=by
 have main : ∀ x y : Nat, (dig B24 y).length ≤ (dig B24 x).length → (dig B24 x).length < 2 ^ 40 → ∀ R : CV → Prop, R (z1X (x + y)) →
     Ok P 197 (loopHead P 197 0) ⟨J3 55 [(0,.cv (z1X x)),(1,.cv (z1X y)),(5,.sl 0 0 ((dig B24 x).length+1) 1),(6,.cv (j6 0)),(7,.cv (j6 0))],[some (own (j3 (List.replicate ((dig B24 x).length+1) 0)))]⟩ (.of R):=by
  intro x y hxy hx R hR
  exact zcC (R:= .of R) rfl (dig B24 x) (dig B24 y) hxy hx (Y5 (by decide) _) (Y5 (by decide) _) (by rw[Q6 (by decide),Q6 (by decide)];exact hR) _ 0
   (List.replicate ((dig B24 x).length+1) 0) 0 rfl (Nat.zero_le _) (by simp) (Dig.replicate (by decide) _) (by omega) (by simp[val])
 have e: ∀n:Nat,n<2^40→IntKind.i64.wrap ((n:Int)+1)=((n+1:Nat):Int):=by intro n hn;rw[w64 (by omega)];omega
 by_cases h:(dig B24 a).length<(dig B24 b).length
 · refine X6 (zn9 _ _ _ _ (by simpa using h) (by rw[e _ hb];omega) (by rw[V7];exact j9 _) ?_)
   rw[V7,e _ hb,show((((dig B24 b).length+1:Nat):Int)).toNat=(dig B24 b).length+1 by omega,Nat.mul_one]
   exact main b a (by omega) hb _ (by rw[Nat.add_comm])
 · refine X6 (zoj _ _ _ _ (by simpa using h) (by rw[e _ ha];omega) (by rw[V7];exact j9 _) ?_)
   rw[V7,e _ ha,show((((dig B24 a).length+1:Nat):Int)).toNat=(dig B24 a).length+1 by omega,Nat.mul_one]
   exact main a b (by omega) ha _ rfl
end Go.Fw
open Go IntKind
namespace Go.Fw
set_option maxRecDepth 100000
theorem zm4(n m:Nat)(xs ys:List Nat)(o0:(0:Int)≤n∧(n:Int)≤n∧(8:Int)*n≤140737488355328∧(n:Int)≤4611686018427387904∧1=1)(o1:CvL (List.replicate ((n:Int).toNat*1) (.cv (.lit (.int .i64 0))))){Q:MV→List CV→Prop}(hR:Ok P 199 (loopHead P 199 0) ⟨J3 44 [(0,.cv (.lst n (j3 xs))),(1,.cv (.lst m (j3 ys))),(5,.sl 0 0 (n:Int).toNat 1),(6,.cv (.lit (.int .i64 0))),(7,.cv (.lit (.int .i64 0)))],[some (List.replicate ((n:Int).toNat*1) (.cv (.lit (.int .i64 0))))]⟩ (.fresh (z3r Q))):z4s P 199 [.lst n (j3 xs),.lst m (j3 ys)] Q:=
 z9H (keep:=[0,1,5,6,7]) (σ:=[0]) (ors:=[(7,.stop)]) (by kernel_rfl) rfl (.cons o0 (.cons o1 .nil)) hR
theorem zjM(n m o c i:Nat)(xs ys zs:List Nat)(h1:decide ((i:Int)<n)=true)(h2:decide ((i:Int)<m)=true)(h3:decide (i64.wrap (i64.wrap ((↑(xs.getD ((i:Int).toNat*1) 0):Int)-c)-(↑(ys.getD ((i:Int).toNat*1) 0):Int))<0)=true)(o1:(0:Int)≤i∧(i:Int)<n)(o2:(j3 xs)[(i:Int).toNat*1]?=some (.lit (.int .i64 ↑(xs.getD ((i:Int).toNat*1) 0))))(o5:(0:Int)≤i∧(i:Int)<m)(o6:(j3 ys)[(i:Int).toNat*1]?=some (.lit (.int .i64 ↑(ys.getD ((i:Int).toNat*1) 0))))(o9:(0:Int)≤i∧(i:Int)<o)(o10:0+(i:Int).toNat*1+1≤(own (j3 zs)).length)(o11:CvL (j4 (own (j3 zs)) (0+(i:Int).toNat*1) [.cv (.lit (.int .i64 (i64.wrap (i64.wrap (i64.wrap ((↑(xs.getD ((i:Int).toNat*1) 0):Int)-c)-(↑(ys.getD ((i:Int).toNat*1) 0):Int))+16777216))))])){R:Goal}(hn:J0 R.n [0]=true)(hR:Ok P 199 (loopHead P 199 0) ⟨J3 44 [(0,.cv (.lst n (j3 xs))),(1,.cv (.lst m (j3 ys))),(5,.sl 0 0 o 1),(6,.cv (.lit (.int .i64 1))),(7,.cv (.lit (.int .i64 (i64.wrap ((i:Int)+1)))))],[some (j4 (own (j3 zs)) (0+(i:Int).toNat*1) [.cv (.lit (.int .i64 (i64.wrap (i64.wrap (i64.wrap ((↑(xs.getD ((i:Int).toNat*1) 0):Int)-c)-(↑(ys.getD ((i:Int).toNat*1) 0):Int))+16777216))))])]⟩ R):Ok P 199 (loopHead P 199 0) ⟨J3 44 [(0,.cv (.lst n (j3 xs))),(1,.cv (.lst m (j3 ys))),(5,.sl 0 0 o 1),(6,.cv (j6 (c:Int))),(7,.cv (j6 (i:Int)))],[some (own (j3 zs))]⟩ R:=
 z1c (m:=1) (keep:=[0,1,5,6,7]) (σ:=[0]) (.b 5 h1 (.c o1 (.l 9 o2 (.c (eqn 1) (.b 17 h2 (.c o5 (.l 22 o6 (.c (eqn 1) (.b 28 h3 (.c o9 (.c o10 (.o 41 .stop .nil)))))))))))) (by kernel_rfl) rfl hn hR (.cons o11 .nil)
theorem ziJ(n m o c i:Nat)(xs ys zs:List Nat)(h1:decide ((i:Int)<n)=true)(h2:decide ((i:Int)<m)=true)(h3:decide (i64.wrap (i64.wrap ((↑(xs.getD ((i:Int).toNat*1) 0):Int)-c)-(↑(ys.getD ((i:Int).toNat*1) 0):Int))<0)=false)(o1:(0:Int)≤i∧(i:Int)<n)(o2:(j3 xs)[(i:Int).toNat*1]?=some (.lit (.int .i64 ↑(xs.getD ((i:Int).toNat*1) 0))))(o5:(0:Int)≤i∧(i:Int)<m)(o6:(j3 ys)[(i:Int).toNat*1]?=some (.lit (.int .i64 ↑(ys.getD ((i:Int).toNat*1) 0))))(o9:(0:Int)≤i∧(i:Int)<o)(o10:0+(i:Int).toNat*1+1≤(own (j3 zs)).length)(o11:CvL (j4 (own (j3 zs)) (0+(i:Int).toNat*1) [.cv (.lit (.int .i64 (i64.wrap (i64.wrap ((↑(xs.getD ((i:Int).toNat*1) 0):Int)-c)-(↑(ys.getD ((i:Int).toNat*1) 0):Int)))))])){R:Goal}(hn:J0 R.n [0]=true)(hR:Ok P 199 (loopHead P 199 0) ⟨J3 44 [(0,.cv (.lst n (j3 xs))),(1,.cv (.lst m (j3 ys))),(5,.sl 0 0 o 1),(6,.cv (.lit (.int .i64 0))),(7,.cv (.lit (.int .i64 (i64.wrap ((i:Int)+1)))))],[some (j4 (own (j3 zs)) (0+(i:Int).toNat*1) [.cv (.lit (.int .i64 (i64.wrap (i64.wrap ((↑(xs.getD ((i:Int).toNat*1) 0):Int)-c)-(↑(ys.getD ((i:Int).toNat*1) 0):Int)))))])]⟩ R):Ok P 199 (loopHead P 199 0) ⟨J3 44 [(0,.cv (.lst n (j3 xs))),(1,.cv (.lst m (j3 ys))),(5,.sl 0 0 o 1),(6,.cv (j6 (c:Int))),(7,.cv (j6 (i:Int)))],[some (own (j3 zs))]⟩ R:=
 z1c (m:=1) (keep:=[0,1,5,6,7]) (σ:=[0]) (.b 5 h1 (.c o1 (.l 9 o2 (.c (eqn 1) (.b 17 h2 (.c o5 (.l 22 o6 (.c (eqn 1) (.b 28 h3 (.c o9 (.c o10 (.o 37 .stop .nil)))))))))))) (by kernel_rfl) rfl hn hR (.cons o11 .nil)
theorem zjZ(n m o c i:Nat)(xs ys zs:List Nat)(h1:decide ((i:Int)<n)=true)(h2:decide ((i:Int)<m)=false)(h3:decide (i64.wrap ((↑(xs.getD ((i:Int).toNat*1) 0):Int)-c)<0)=true)(o1:(0:Int)≤i∧(i:Int)<n)(o2:(j3 xs)[(i:Int).toNat*1]?=some (.lit (.int .i64 ↑(xs.getD ((i:Int).toNat*1) 0))))(o6:(0:Int)≤i∧(i:Int)<o)(o7:0+(i:Int).toNat*1+1≤(own (j3 zs)).length)(o8:CvL (j4 (own (j3 zs)) (0+(i:Int).toNat*1) [.cv (.lit (.int .i64 (i64.wrap (i64.wrap ((↑(xs.getD ((i:Int).toNat*1) 0):Int)-c)+16777216))))])){R:Goal}(hn:J0 R.n [0]=true)(hR:Ok P 199 (loopHead P 199 0) ⟨J3 44 [(0,.cv (.lst n (j3 xs))),(1,.cv (.lst m (j3 ys))),(5,.sl 0 0 o 1),(6,.cv (.lit (.int .i64 1))),(7,.cv (.lit (.int .i64 (i64.wrap ((i:Int)+1)))))],[some (j4 (own (j3 zs)) (0+(i:Int).toNat*1) [.cv (.lit (.int .i64 (i64.wrap (i64.wrap ((↑(xs.getD ((i:Int).toNat*1) 0):Int)-c)+16777216))))])]⟩ R):Ok P 199 (loopHead P 199 0) ⟨J3 44 [(0,.cv (.lst n (j3 xs))),(1,.cv (.lst m (j3 ys))),(5,.sl 0 0 o 1),(6,.cv (j6 (c:Int))),(7,.cv (j6 (i:Int)))],[some (own (j3 zs))]⟩ R:=
 z1c (m:=1) (keep:=[0,1,5,6,7]) (σ:=[0]) (.b 5 h1 (.c o1 (.l 9 o2 (.c (eqn 1) (.b 17 h2 (.b 21 h3 (.c o6 (.c o7 (.o 34 .stop .nil))))))))) (by kernel_rfl) rfl hn hR (.cons o8 .nil)
theorem zhq(n m o c i:Nat)(xs ys zs:List Nat)(h1:decide ((i:Int)<n)=true)(h2:decide ((i:Int)<m)=false)(h3:decide (i64.wrap ((↑(xs.getD ((i:Int).toNat*1) 0):Int)-c)<0)=false)(o1:(0:Int)≤i∧(i:Int)<n)(o2:(j3 xs)[(i:Int).toNat*1]?=some (.lit (.int .i64 ↑(xs.getD ((i:Int).toNat*1) 0))))(o6:(0:Int)≤i∧(i:Int)<o)(o7:0+(i:Int).toNat*1+1≤(own (j3 zs)).length)(o8:CvL (j4 (own (j3 zs)) (0+(i:Int).toNat*1) [.cv (.lit (.int .i64 (i64.wrap ((↑(xs.getD ((i:Int).toNat*1) 0):Int)-c))))])){R:Goal}(hn:J0 R.n [0]=true)(hR:Ok P 199 (loopHead P 199 0) ⟨J3 44 [(0,.cv (.lst n (j3 xs))),(1,.cv (.lst m (j3 ys))),(5,.sl 0 0 o 1),(6,.cv (.lit (.int .i64 0))),(7,.cv (.lit (.int .i64 (i64.wrap ((i:Int)+1)))))],[some (j4 (own (j3 zs)) (0+(i:Int).toNat*1) [.cv (.lit (.int .i64 (i64.wrap ((↑(xs.getD ((i:Int).toNat*1) 0):Int)-c))))])]⟩ R):Ok P 199 (loopHead P 199 0) ⟨J3 44 [(0,.cv (.lst n (j3 xs))),(1,.cv (.lst m (j3 ys))),(5,.sl 0 0 o 1),(6,.cv (j6 (c:Int))),(7,.cv (j6 (i:Int)))],[some (own (j3 zs))]⟩ R:=
 z1c (m:=1) (keep:=[0,1,5,6,7]) (σ:=[0]) (.b 5 h1 (.c o1 (.l 9 o2 (.c (eqn 1) (.b 17 h2 (.b 21 h3 (.c o6 (.c o7 (.o 30 .stop .nil))))))))) (by kernel_rfl) rfl hn hR (.cons o8 .nil)
theorem zi7(n m o c i:Nat)(xs ys zs:List Nat)(h1:decide ((i:Int)<n)=false)(s7_0:o=zs.length)(s7_1:zs.length<2^62)(o2:BlksCv [some (own (j3 zs)),some (own (j3 zs))]){R:Goal}(hn:R.Fresh)(hR:R.m (.sl 0 0 (tz zs).length 1) [some (own (j3 zs))]):Ok P 199 (loopHead P 199 0) ⟨J3 44 [(0,.cv (.lst n (j3 xs))),(1,.cv (.lst m (j3 ys))),(5,.sl 0 0 o 1),(6,.cv (j6 (c:Int))),(7,.cv (j6 (i:Int)))],[some (own (j3 zs))]⟩ R:=
 zp6 1 (ors:=[(5,.b false),(7,.m [0] (.sl 0 0 (tz zs).length 1) [some (own (j3 zs))]),(9,.m [0] MV.unk [])]) (by kernel_rfl) (.cons h1 (.cons (z6z (o) (zs) s7_0 s7_1) (.cons o2 (.cons (show CvL (own (j3 zs))from(j9 _)) .nil)))) hn hR
end Go.Fw
open Go
namespace Go.Fw
set_option maxRecDepth 100000
theorem zaC {R : Goal} (hn : J0 R.n [0] = true) (hF : R.Fresh) (xs ys : List Nat) (hle : ys.length ≤ xs.length) (hlen : xs.length < 2 ^ 40) (hx : Dig B24 xs) (hy : Dig B24 ys) (hv0 : val B24 ys ≤ val B24 xs)
    (hR: ∀zs:List Nat,zs.length=xs.length→Dig B24 zs→val B24 zs=val B24 xs-val B24 ys→R.m (.sl 0 0 (tz zs).length 1) [some (own (j3 zs))]):
    ∀(k i:Nat) (zs:List Nat) (c:Nat),xs.length-i=k→i≤xs.length→zs.length=xs.length→Dig B24 zs→c≤1→
     val B24 (zs.take i)+val B24 (ys.take i)=val B24 (xs.take i)+c*B24^i→
     Ok P 199 (loopHead P 199 0) ⟨J3 44 [(0,.cv (.lst xs.length (j3 xs))),(1,.cv (.lst ys.length (j3 ys))),(5,.sl 0 0 xs.length 1),(6,.cv (j6 (c:Int))),(7,.cv (j6 (i:Int)))],[some (own (j3 zs))]⟩ R:=by
 intro k
 induction k with
 |zero=>
  intro i zs c hk hi hz hd hc hv
  have:i=xs.length:=by omega
  subst this
  refine zi7 _ _ _ _ _ _ _ _ (by simp) hz.symm (by omega) (BlksCv.two (j9 _) (j9 _)) hF (hR zs hz hd ?_)
  rw[List.take_of_length_le (by omega),List.take_length,z0a hle]at hv
  have hzl:=z0z (by decide:0<B24) zs hd
  rw[hz]at hzl
  have hc0:c=0∨c=1:=by omega
  rcases hc0 with rfl|rfl
  · omega
  · omega
 |succ k ih=>
  intro i zs c hk hi hz hd hc hv
  have hlt:i<xs.length:=by omega
  have e1:(i:Int).toNat*1=i:=by omega
  have e2:(0:Nat)+(i:Int).toNat*1=i:=by omega
  have e3:IntKind.i64.wrap ((i:Int)+1)=((i+1:Nat):Int):=by rw[w64 (by omega)];omega
  have gx:=Z8 (xs:=xs) (i:=(i:Int).toNat*1) (by omega)
  have dx:=hx.get (by decide) i
  have dy:=hy.get (by decide) i
  have hdg: ∀s:Nat,s%B24<B24:=fun s=>Nat.mod_lt _ (by decide)
  have key: ∀y' d c':Nat,y'=ys.getD i 0→d+y'+c=xs.getD i 0+B24*c'→val B24 ((zs.set i d).take (i+1))+val B24 (ys.take (i+1))=val B24 (xs.take (i+1))+c'*B24^(i+1):=by
   intro y' d c' hy' h
   rw[U8 (by omega),Z7,Z7,←hy',Nat.pow_succ]
   exact z7V _ _ _ _ _ _ _ _ _ _ hv h
  have hset: ∀d:Nat,j4 (own (j3 zs)) (0+(i:Int).toNat*1) [.cv (.lit (.int .i64 (d:Int)))]=own (j3 (zs.set i d)):=by
   intro d;rw[e2];exact Q8 (by omega)
  simp only[B24]at dx dy
  by_cases hi2:i<ys.length
  · have gy:=Z8 (xs:=ys) (i:=(i:Int).toNat*1) (by omega)
    have hs:IntKind.i64.wrap (IntKind.i64.wrap (((xs.getD ((i:Int).toNat*1) 0:Nat):Int)-(c:Int))-((ys.getD ((i:Int).toNat*1) 0:Nat):Int))=(xs.getD i 0:Int)-c-ys.getD i 0:=by
     rw[e1,w64 (n:=(xs.getD i 0:Int)-(c:Int)) (by omega),w64 (by omega)]
    by_cases hneg:xs.getD i 0<c+ys.getD i 0
    · have hw : IntKind.i64.wrap (IntKind.i64.wrap (IntKind.i64.wrap (((xs.getD ((i : Int).toNat * 1) 0 : Nat) : Int) - (c : Int)) - ((ys.getD ((i : Int).toNat * 1) 0 : Nat) : Int)) + 16777216) = ((xs.getD i 0 + 16777216 - c - ys.getD i 0 : Nat) : Int) := by
        rw[hs,w64 (by omega)];omega
      refine zjM _ _ _ _ _ _ _ _ (decide_eq_true (by omega)) (decide_eq_true (by omega)) (decide_eq_true (by rw[hs];omega)) (by omega) gx (by omega) gy (by omega) (by rw[e2,J1,Q5];omega) (by rw[hw,hset];exact j9 _) hn ?_
      rw[hw,hset,e3]
      exact ih (i+1) _ 1 (by omega) (by omega) (by simpa using hz) (hd.set (by simp only[B24];omega) _) (by omega) (key _ _ 1 rfl (by simp only[B24];omega))
    · have hw : IntKind.i64.wrap (IntKind.i64.wrap (((xs.getD ((i : Int).toNat * 1) 0 : Nat) : Int) - (c : Int)) - ((ys.getD ((i : Int).toNat * 1) 0 : Nat) : Int)) = ((xs.getD i 0 - c - ys.getD i 0 : Nat) : Int) := by
        rw[hs];omega
      refine ziJ _ _ _ _ _ _ _ _ (decide_eq_true (by omega)) (decide_eq_true (by omega)) (decide_eq_false (by rw[hs];omega)) (by omega) gx (by omega) gy (by omega) (by rw[e2,J1,Q5];omega) (by rw[hw,hset];exact j9 _) hn ?_
      rw[hw,hset,e3]
      exact ih (i+1) _ 0 (by omega) (by omega) (by simpa using hz) (hd.set (by simp only[B24];omega) _) (by omega) (key _ _ 0 rfl (by omega))
  · have hy0:ys.getD i 0=0:=z3j (by omega)
    have hs:IntKind.i64.wrap (((xs.getD ((i:Int).toNat*1) 0:Nat):Int)-(c:Int))=(xs.getD i 0:Int)-c:=by rw[e1,w64 (by omega)]
    by_cases hneg:xs.getD i 0<c
    · have hw : IntKind.i64.wrap (IntKind.i64.wrap (((xs.getD ((i : Int).toNat * 1) 0 : Nat) : Int) - (c : Int)) + 16777216) = ((xs.getD i 0 + 16777216 - c : Nat) : Int) := by
        rw[hs,w64 (by omega)];omega
      refine zjZ _ _ _ _ _ _ _ _ (decide_eq_true (by omega)) (decide_eq_false (by omega)) (decide_eq_true (by rw[hs];omega)) (by omega) gx (by omega) (by rw[e2,J1,Q5];omega) (by rw[hw,hset];exact j9 _) hn ?_
      rw[hw,hset,e3]
      exact ih (i+1) _ 1 (by omega) (by omega) (by simpa using hz) (hd.set (by simp only[B24];omega) _) (by omega) (key 0 _ 1 hy0.symm (by simp only[B24];omega))
    · have hw:IntKind.i64.wrap (((xs.getD ((i:Int).toNat*1) 0:Nat):Int)-(c:Int))=((xs.getD i 0-c:Nat):Int):=by rw[hs];omega
      refine zhq _ _ _ _ _ _ _ _ (decide_eq_true (by omega)) (decide_eq_false (by omega)) (decide_eq_false (by rw[hs];omega)) (by omega) gx (by omega) (by rw[e2,J1,Q5];omega) (by rw[hw,hset];exact j9 _) hn ?_
      rw[hw,hset,e3]
      exact ih (i+1) _ 0 (by omega) (by omega) (by simpa using hz) (hd.set (by simp only[B24];omega) _) (by omega) (key 0 _ 0 hy0.symm (by omega))
theorem z4p{b:Nat}(hb:0<b): ∀(zs:List Nat),Dig b zs→zs=Q7 b zs.length (val b zs):=fun zs hd=>(z0r hb zs hd).symm
theorem z6u(a b:Nat)(ha:(dig B24 a).length<2^40)(hb:b≤a):FCall P 199 [z1X a,z1X b] (.sl 0 0 (dig B24 (a-b)).length 1) (j3 (Q7 B24 (dig B24 a).length (a-b))):=by
 have e:((dig B24 a).length:Int).toNat*1=(dig B24 a).length:=by omega
 refine zm4 _ _ _ _ (by omega) (by rw[V7];exact j9 _) ?_
 rw[V7,e,Int.toNat_natCast]
 refine zaC (R:= .fresh _) rfl ⟨rfl,rfl⟩ (dig B24 a) (dig B24 b) (Z4 (by decide) hb) ha (Y5 (by decide) _) (Y5 (by decide) _) (by rw[Q6 (by decide),Q6 (by decide)];exact hb) ?_ _ 0
  (List.replicate (dig B24 a).length 0) 0 rfl (Nat.zero_le _) (by simp) (Dig.replicate (by decide) _) (by omega) (by simp[val])
 intro zs hz hd hv
 rw[Q6 (by decide),Q6 (by decide)]at hv
 have h1:=z4p (by decide:0<B24) zs hd
 rw[hz,hv]at h1
 have h2:=z0S (by decide:2≤B24) zs hd
 rw[hv]at h2
 refine⟨j3 zs,rfl,?_,?_⟩
 · rw[h2]
 · rw[←h1]
end Go.Fw
open Go IntKind
namespace Go.Fw
set_option maxRecDepth 100000
theorem zml(j n:Nat)(xs:List Nat){Q:MV→List Blk→Prop}(hR:Ok P 234 (loopHead P 234 0) ⟨J3 21 [(0,.sl 0 j n 1)],[some (own (j3 xs))]⟩ (.lent [some (own (j3 xs))].length Q)):z2Z P 234 [some (own (j3 xs))] [.sl 0 j n 1] Q:=
 z7Z (keep:=[0]) (σ:=[0]) (ors:=[(1,.stop)]) (by kernel_rfl) rfl (.cons (show CvL (own (j3 xs))from(j9 _)) .nil) rfl hR
theorem zkr(j n:Nat)(xs:List Nat)(h1:decide ((n:Int)>0)=true)(h2:((↑(xs.getD (j+(i64.wrap ((n:Int)-1)).toNat*1) 0):Int)==0)=true)(o1:(0:Int)≤i64.wrap ((n:Int)-1)∧i64.wrap ((n:Int)-1)<(n:Int))(o2:(own (j3 xs))[j+(i64.wrap ((n:Int)-1)).toNat*1]?=some (.cv (.lit (.int .i64 (↑(xs.getD (j+(i64.wrap ((n:Int)-1)).toNat*1) 0):Int)))))(o5:(0:Int)≤0∧(0:Int)≤i64.wrap ((n:Int)-1)∧i64.wrap ((n:Int)-1)≤(n:Int)∧((0:Int)=0∨(0:Int)<i64.wrap ((n:Int)-1))){R:Goal}(hn:J0 R.n [0]=true)(hR:Ok P 234 (loopHead P 234 0) ⟨J3 21 [(0,.sl 0 (j+0) (i64.wrap ((n:Int)-1)-0).toNat 1)],[some (own (j3 xs))]⟩ R):Ok P 234 (loopHead P 234 0) ⟨J3 21 [(0,.sl 0 j n 1)],[some (own (j3 xs))]⟩ R:=
 z1c (m:=1) (keep:=[0]) (σ:=[0]) (.b 4 h1 (.c o1 (.e 10 o2 (.c (eqn 1) (.b 13 h2 (.c o5 (.o 20 .stop .nil))))))) (by kernel_rfl) rfl hn hR (.cons (j9 _) .nil)
theorem zk1(j n:Nat)(xs:List Nat)(h1:decide ((n:Int)>0)=true)(h2:((↑(xs.getD (j+(i64.wrap ((n:Int)-1)).toNat*1) 0):Int)==0)=false)(o1:(0:Int)≤i64.wrap ((n:Int)-1)∧i64.wrap ((n:Int)-1)<(n:Int))(o2:(own (j3 xs))[j+(i64.wrap ((n:Int)-1)).toNat*1]?=some (.cv (.lit (.int .i64 (↑(xs.getD (j+(i64.wrap ((n:Int)-1)).toNat*1) 0):Int)))))(o6:BlksCv [some (own (j3 xs))]){R:Goal}(hn:R.Lent 1)(hR:R.m (.sl 0 j n 1) [some (own (j3 xs))]):Ok P 234 (loopHead P 234 0) ⟨J3 21 [(0,.sl 0 j n 1)],[some (own (j3 xs))]⟩ R:=
 zgP (ors:=[(4,.b true),(10,.e (.cv (.lit (.int .i64 (↑(xs.getD (j+(i64.wrap ((n:Int)-1)).toNat*1) 0):Int))))),(13,.b false),(16,.a)]) (by kernel_rfl) (.cons h1 (.cons o1 (.cons o2 (.cons (eqn 1) (.cons h2 (.cons (lq 1 1) (.cons o6 .nil))))))) hn hR
theorem zhl(j n:Nat)(xs:List Nat)(h1:decide ((n:Int)>0)=false)(o2:BlksCv [some (own (j3 xs))]){R:Goal}(hn:R.Lent 1)(hR:R.m (.sl 0 j n 1) [some (own (j3 xs))]):Ok P 234 (loopHead P 234 0) ⟨J3 21 [(0,.sl 0 j n 1)],[some (own (j3 xs))]⟩ R:=
 zgP (ors:=[(4,.b false),(16,.a)]) (by kernel_rfl) (.cons h1 (.cons (lq 1 1) (.cons o2 .nil))) hn hR
end Go.Fw
open Go
namespace Go.Fw
set_option maxRecDepth 100000
theorem z7H(xs:List Nat)(j k:Nat):(xs.drop j).getD k 0=xs.getD (j+k) 0:=by
 simp[List.getD_eq_getElem?_getD,List.getElem?_drop]
theorem z9b {R : Goal} (hn : J0 R.n [0] = true) (hL : R.Lent 1) (j n : Nat) (xs : List Nat) (hj : j + n ≤ xs.length) (hl : xs.length < 2 ^ 60)
    (hR:R.m (.sl 0 j (tz ((xs.drop j).take n)).length 1) [some (own (j3 xs))]): ∀(k:Nat),k≤n→tz ((xs.drop j).take k)=tz ((xs.drop j).take n)→
    Ok P 234 (loopHead P 234 0) ⟨J3 21 [(0,.sl 0 j k 1)],[some (own (j3 xs))]⟩ R:=by
 intro k
 induction k with
 |zero=>
  intro hk ht
  rw[←ht,List.take_zero]at hR
  exact zhl j 0 xs (by decide) (BlksCv.one (j9 _)) hL hR
 |succ k ih=>
  intro hk ht
  have hw:IntKind.i64.wrap (((k+1:Nat):Int)-1)=(k:Int):=by rw[w64 (by omega)];omega
  have e0:j+(k:Int).toNat*1=j+k:=by omega
  have hts:=z0M (xs:=xs.drop j) (i:=k) (by rw[List.length_drop];omega)
  rw[z7H]at hts
  have hg:=Y7 (Z8 (xs:=xs) (i:=j+k) (by omega))
  by_cases hx:xs.getD (j+k) 0=0
  · refine zkr j (k+1) xs (by simp) (by rw[hw,e0];exact beq_iff_eq.2 (by omega)) (by rw[hw];omega) (by rw[hw,e0];exact hg) (by rw[hw];omega) hn ?_
    rw[hw]
    have h1:((k:Int)-0).toNat=k:=by omega
    rw[h1]
    exact ih (by omega) (by rw[←ht,hts,hx,Y8])
  · have:(tz ((xs.drop j).take n)).length=k+1:=by rw[←ht,hts,z0P hx];simp;omega
    rw[this]at hR
    exact zk1 j (k+1) xs (by simp) (by rw[hw,e0];exact beq_eq_false_iff_ne.2 (by omega)) (by rw[hw];omega) (by rw[hw,e0];exact hg) (BlksCv.one (j9 _)) hL hR
theorem zgb(j n:Nat)(xs:List Nat)(hj:j+n≤xs.length)(hl:xs.length<2^60):z1Z P 234 [some (own (j3 xs))] [.sl 0 j n 1] (.sl 0 j (tz ((xs.drop j).take n)).length 1) [some (own (j3 xs))]:=
 zml _ _ _ (z9b (R:= .lent 1 (fun a b=>a= .sl 0 j (tz ((xs.drop j).take n)).length 1∧b=[some (own (j3 xs))])) rfl ⟨rfl,rfl⟩ j n xs hj hl ⟨rfl,rfl⟩ n (Nat.le_refl _) rfl)
end Go.Fw
open Go IntKind
namespace Go.Fw
set_option maxRecDepth 100000
theorem zox(n:Nat)(xs:List Nat){Q:MV→List Blk→Prop}(hR:Ok P 231 (loopHead P 231 0) ⟨J3 62 [(0,.sl 0 0 n 1),(4,.cv (.lit (.int .i64 0)))],[some (own (j3 xs))]⟩ (.lent [some (own (j3 xs))].length Q)):z2Z P 231 [some (own (j3 xs))] [.sl 0 0 n 1] Q:=
 z7Z (keep:=[0,4]) (σ:=[0]) (ors:=[(3,.stop)]) (by kernel_rfl) rfl (.cons (show CvL (own (j3 xs))from(j9 _)) .nil) rfl hR
theorem ziN(j n c:Nat)(xs:List Nat)(h1:((↑(xs.getD (j+0) 0):Int)==0)=true)(o0:(0:Int)≤0∧(0:Int)<n)(o1:(own (j3 xs))[j+0]?=some (.cv (.lit (.int .i64 ↑(xs.getD (j+0) 0)))))(o4:(0:Int)≤1∧(1:Int)≤n∧(n:Int)≤n∧((1:Int)=0∨(1:Int)<n)){R:Goal}(hn:J0 R.n [0]=true)(hR:Ok P 231 (loopHead P 231 0) ⟨J3 62 [(0,.sl 0 (j+1) ((n:Int)-1).toNat 1),(4,.cv (.lit (.int .i64 (i64.wrap ((c:Int)+24)))))],[some (own (j3 xs))]⟩ R):Ok P 231 (loopHead P 231 0) ⟨J3 62 [(0,.sl 0 j n 1),(4,.cv (j6 (c:Int)))],[some (own (j3 xs))]⟩ R:=
 z1c (m:=1) (keep:=[0,4]) (σ:=[0]) (.c o0 (.e 3 o1 (.c (eqn 1) (.b 5 h1 (.c o4 (.o 12 .stop .nil)))))) (by kernel_rfl) rfl hn hR (.cons (j9 _) .nil)
theorem zkN(j n c:Nat)(xs:List Nat)(h1:((↑(xs.getD (j+0) 0):Int)==0)=false)(o0:(0:Int)≤0∧(0:Int)<n)(o1:(own (j3 xs))[j+0]?=some (.cv (.lit (.int .i64 ↑(xs.getD (j+0) 0))))){R:Goal}(hn:J0 R.n [0]=true)(hR:Ok P 231 (loopHead P 231 1) ⟨J3 62 [(0,.sl 0 j n 1),(4,.cv (.lit (.int .i64 (c:Int)))),(5,.cv (.lit (.int .i64 0)))],[some (own (j3 xs))]⟩ R):Ok P 231 (loopHead P 231 0) ⟨J3 62 [(0,.sl 0 j n 1),(4,.cv (j6 (c:Int)))],[some (own (j3 xs))]⟩ R:=
 z1c (m:=1) (keep:=[0,4,5]) (σ:=[0]) (.c o0 (.e 3 o1 (.c (eqn 1) (.b 5 h1 (.o 7 .stop .nil))))) (by kernel_rfl) rfl hn hR (.cons (j9 _) .nil)
theorem zhN(j n c k:Nat)(xs:List Nat)(h1:(X2 BinOp.and i64 ((↑(xs.getD (j+0) 0):Int).fdiv ((2:Int)^min (k:Int).toNat 64)) (1:Int)==0)=true)(o0:(0:Int)≤0∧(0:Int)<n)(o1:(own (j3 xs))[j+0]?=some (.cv (.lit (.int .i64 ↑(xs.getD (j+0) 0)))))(o3:(0:Int)≤k){R:Goal}(hn:J0 R.n [0]=true)(hR:Ok P 231 (loopHead P 231 1) ⟨J3 62 [(0,.sl 0 j n 1),(4,.cv (.lit (.int .i64 (c:Int)))),(5,.cv (.lit (.int .i64 (i64.wrap ((k:Int)+1)))))],[some (own (j3 xs))]⟩ R):Ok P 231 (loopHead P 231 1) ⟨J3 62 [(0,.sl 0 j n 1),(4,.cv (j6 (c:Int))),(5,.cv (j6 (k:Int)))],[some (own (j3 xs))]⟩ R:=
 z1c (m:=1) (keep:=[0,4,5]) (σ:=[0]) (.c o0 (.e 3 o1 (.c (eqn 1) (.c o3 (.b 8 h1 (.o 12 .stop .nil)))))) (by kernel_rfl) rfl hn hR (.cons (j9 _) .nil)
theorem zjN(j n c k:Nat)(xs:List Nat)(h1:(X2 BinOp.and i64 ((↑(xs.getD (j+0) 0):Int).fdiv ((2:Int)^min (k:Int).toNat 64)) (1:Int)==0)=false)(o0:(0:Int)≤0∧(0:Int)<n)(o1:(own (j3 xs))[j+0]?=some (.cv (.lit (.int .i64 ↑(xs.getD (j+0) 0)))))(o3:(0:Int)≤k){R:Goal}(hn:J0 R.n [0]=true)(hR:Ok P 231 (loopHead P 231 2) ⟨J3 62 [(0,.sl 0 j n 1),(4,.cv (.lit (.int .i64 (c:Int)))),(5,.cv (.lit (.int .i64 (k:Int)))),(6,.cv (.lit (.int .i64 0)))],[some (own (j3 xs))]⟩ R):Ok P 231 (loopHead P 231 1) ⟨J3 62 [(0,.sl 0 j n 1),(4,.cv (j6 (c:Int))),(5,.cv (j6 (k:Int)))],[some (own (j3 xs))]⟩ R:=
 z1c (m:=1) (keep:=[0,4,5,6]) (σ:=[0]) (.c o0 (.e 3 o1 (.c (eqn 1) (.c o3 (.b 8 h1 (.o 10 .stop .nil)))))) (by kernel_rfl) rfl hn hR (.cons (j9 _) .nil)
theorem ziR(j n c k i:Nat)(xs:List Nat)(p q:Int)(h1:decide ((i:Int)<n)=true)(h2:decide (i64.wrap ((i:Int)+1)<(n:Int))=true)(o1:(0:Int)≤i∧(i:Int)<n)(o2:(own (j3 xs))[j+(i:Int).toNat*1]?=some (.cv (.lit (.int .i64 ↑(xs.getD (j+(i:Int).toNat*1) 0)))))(o4:(0:Int)≤k)(o5:(0:Int)≤i∧(i:Int)<n)(o6:j+(i:Int).toNat*1+1≤(own (j3 xs)).length)(o8:(0:Int)≤i∧(i:Int)<n)(o9:(j4 (own (j3 xs)) (j+(i:Int).toNat*1) [.cv (.lit (.int .i64 ((↑(xs.getD (j+(i:Int).toNat*1) 0):Int).fdiv ((2:Int)^min (k:Int).toNat 64))))])[j+(i:Int).toNat*1]?=some (.cv (.lit (.int .i64 p))))(o11:(0:Int)≤i64.wrap ((i:Int)+1)∧i64.wrap ((i:Int)+1)<(n:Int))(o12:(j4 (own (j3 xs)) (j+(i:Int).toNat*1) [.cv (.lit (.int .i64 ((↑(xs.getD (j+(i:Int).toNat*1) 0):Int).fdiv ((2:Int)^min (k:Int).toNat 64))))])[j+(i64.wrap ((i:Int)+1)).toNat*1]?=some (.cv (.lit (.int .i64 q))))(o14:(0:Int)≤i64.wrap ((24:Int)-k))(o16:(0:Int)≤i∧(i:Int)<n)(o17:j+(i:Int).toNat*1+1≤(j4 (own (j3 xs)) (j+(i:Int).toNat*1) [.cv (.lit (.int .i64 ((↑(xs.getD (j+(i:Int).toNat*1) 0):Int).fdiv ((2:Int)^min (k:Int).toNat 64))))]).length)(o18:CvL (j4 (j4 (own (j3 xs)) (j+(i:Int).toNat*1) [.cv (.lit (.int .i64 ((↑(xs.getD (j+(i:Int).toNat*1) 0):Int).fdiv ((2:Int)^min (k:Int).toNat 64))))]) (j+(i:Int).toNat*1) [.cv (.lit (.int .i64 (i64.wrap (p+(i64.wrap (q*2^min (i64.wrap ((24:Int)-k)).toNat 64)).tmod 16777216))))])){R:Goal}(hn:J0 R.n [0]=true)(hR:Ok P 231 (loopHead P 231 2) ⟨J3 62 [(0,.sl 0 j n 1),(4,.cv (.lit (.int .i64 (c:Int)))),(5,.cv (.lit (.int .i64 (k:Int)))),(6,.cv (.lit (.int .i64 (i64.wrap ((i:Int)+1)))))],[some (j4 (j4 (own (j3 xs)) (j+(i:Int).toNat*1) [.cv (.lit (.int .i64 ((↑(xs.getD (j+(i:Int).toNat*1) 0):Int).fdiv ((2:Int)^min (k:Int).toNat 64))))]) (j+(i:Int).toNat*1) [.cv (.lit (.int .i64 (i64.wrap (p+(i64.wrap (q*2^min (i64.wrap ((24:Int)-k)).toNat 64)).tmod 16777216))))])]⟩ R):Ok P 231 (loopHead P 231 2) ⟨J3 62 [(0,.sl 0 j n 1),(4,.cv (j6 (c:Int))),(5,.cv (j6 (k:Int))),(6,.cv (j6 (i:Int)))],[some (own (j3 xs))]⟩ R:=
 z1c (m:=1) (keep:=[0,4,5,6]) (σ:=[0]) (.b 5 h1 (.c o1 (.e 9 o2 (.c (eqn 1) (.c o4 (.c o5 (.c o6 (.b 19 h2 (.c o8 (.c o9 (.c (eqn 1) (.c o11 (.c o12 (.c (eqn 1) (.c o14 (.c (nz 16777216) (.c o16 (.c o17 (.o 23 (.e (.cv (j6 p))) (.o 28 (.e (.cv (j6 q))) (.o 39 .stop .nil))))))))))))))))))))) (by kernel_rfl) rfl hn hR (.cons o18 .nil)
theorem zjF(j n c k i:Nat)(xs:List Nat)(h1:decide ((i:Int)<n)=true)(h2:decide (i64.wrap ((i:Int)+1)<(n:Int))=false)(o1:(0:Int)≤i∧(i:Int)<n)(o2:(own (j3 xs))[j+(i:Int).toNat*1]?=some (.cv (.lit (.int .i64 ↑(xs.getD (j+(i:Int).toNat*1) 0)))))(o4:(0:Int)≤k)(o5:(0:Int)≤i∧(i:Int)<n)(o6:j+(i:Int).toNat*1+1≤(own (j3 xs)).length)(o8:CvL (j4 (own (j3 xs)) (j+(i:Int).toNat*1) [.cv (.lit (.int .i64 ((↑(xs.getD (j+(i:Int).toNat*1) 0):Int).fdiv ((2:Int)^min (k:Int).toNat 64))))])){R:Goal}(hn:J0 R.n [0]=true)(hR:Ok P 231 (loopHead P 231 2) ⟨J3 62 [(0,.sl 0 j n 1),(4,.cv (.lit (.int .i64 (c:Int)))),(5,.cv (.lit (.int .i64 (k:Int)))),(6,.cv (.lit (.int .i64 (i64.wrap ((i:Int)+1)))))],[some (j4 (own (j3 xs)) (j+(i:Int).toNat*1) [.cv (.lit (.int .i64 ((↑(xs.getD (j+(i:Int).toNat*1) 0):Int).fdiv ((2:Int)^min (k:Int).toNat 64))))])]⟩ R):Ok P 231 (loopHead P 231 2) ⟨J3 62 [(0,.sl 0 j n 1),(4,.cv (j6 (c:Int))),(5,.cv (j6 (k:Int))),(6,.cv (j6 (i:Int)))],[some (own (j3 xs))]⟩ R:=
 z1c (m:=1) (keep:=[0,4,5,6]) (σ:=[0]) (.b 5 h1 (.c o1 (.e 9 o2 (.c (eqn 1) (.c o4 (.c o5 (.c o6 (.b 19 h2 (.o 23 .stop .nil))))))))) (by kernel_rfl) rfl hn hR (.cons o8 .nil)
theorem zhQ(j n c k i:Nat)(xs:List Nat)(h1:decide ((i:Int)<n)=false)(s7_0:j+n≤xs.length)(s7_1:xs.length<2^60)(o2:BlksCv [some (own (j3 xs)),some (own (j3 xs))])(o4:BlksCv [some (own (j3 xs))]){R:Goal}(hn:R.Lent 1)(hR:R.m (.tup [.sl 0 j (tz (List.take n (List.drop j xs))).length 1,.cv (.lit (.int .i64 (i64.wrap ((c:Int)+k))))]) [some (own (j3 xs))]):Ok P 231 (loopHead P 231 2) ⟨J3 62 [(0,.sl 0 j n 1),(4,.cv (j6 (c:Int))),(5,.cv (j6 (k:Int))),(6,.cv (j6 (i:Int)))],[some (own (j3 xs))]⟩ R:=
 zgP (ors:=[(5,.b false),(7,.m [0] (.sl 0 j (tz (List.take n (List.drop j xs))).length 1) [some (own (j3 xs))]),(13,.a)]) (by kernel_rfl) (.cons h1 (.cons (zgb (j) (n) (xs) s7_0 s7_1) (.cons o2 (.cons (lq 1 2) (.cons o4 .nil))))) hn hR
end Go.Fw
open Go
namespace Go.Fw
set_option maxRecDepth 100000
theorem zds(A P Q:Nat)(hP:0<P)(hQ:0<Q):A/Q%(Q*P)=A%(Q*P)/Q+(A/(Q*P)%(Q*P))*P%(Q*P):=by
 have hA:=Nat.mod_add_div A (Q*P)
 generalize hA1:A/(Q*P)=A1 at hA ⊢
 generalize ha0:A%(Q*P)=a0 at hA ⊢
 have hlt:a0<Q*P:=by rw[←ha0];exact Nat.mod_lt _ (Nat.mul_pos hQ hP)
 have h1:A/Q=a0/Q+P*A1:=by
  rw[←hA,Nat.mul_assoc,Nat.add_mul_div_left _ _ hQ]
 have h2:a0/Q<P:=(Nat.div_lt_iff_lt_mul hQ).2 (by rw[Nat.mul_comm];exact hlt)
 have h3:A1%(Q*P)*P%(Q*P)=P*(A1%Q):=by
  rw[Nat.mul_comm (A1%(Q*P)) P,Nat.mul_comm Q P,Nat.mul_mod_mul_left,Nat.mul_comm P Q,Nat.mod_mul_right_mod]
 have h4:A1%Q+1≤Q:=Nat.mod_lt _ hQ
 have h5:P*(A1%Q)+P≤Q*P:=by
  calc P*(A1%Q)+P=P*(A1%Q+1):=by rw[Nat.mul_add,Nat.mul_one]
   _≤P*Q:=Nat.mul_le_mul_left _ h4
   _=Q*P:=Nat.mul_comm _ _
 have h6:P*A1=P*(A1%Q)+(A1/Q)*(Q*P):=by
  have:=Nat.mod_add_div A1 Q
  calc P*A1=P*(A1%Q+Q*(A1/Q)):=by rw[this]
   _=P*(A1%Q)+(A1/Q)*(Q*P):=by rw[Nat.mul_add,Nat.mul_comm (A1/Q),Nat.mul_comm Q P,←Nat.mul_assoc]
 rw[h1,h3,h6,←Nat.add_assoc,Nat.add_mul_mod_self_right,Nat.mod_eq_of_lt (by omega)]
theorem z92(A k:Nat)(hk:k≤24):A/2^k%B24=A%B24/2^k+(A/B24%B24)*2^(24-k)%B24:=by
 have e:B24=2^k*2^(24-k):=by rw[←Nat.pow_add,show k+(24-k)=24 by omega]
 rw[e]
 exact zds A _ _ (Nat.pow_pos (by decide)) (Nat.pow_pos (by decide))
theorem zbS(u k:Nat)(hk:k<24):u%B24/2^k%2=u/2^k%2:=by
 have h:=Nat.testBit_mod_two_pow u 24 k
 rw[decide_eq_true hk,Bool.true_and]at h
 simp only[Nat.testBit_eq_decide_div_mod_eq,decide_eq_decide]at h
 have e:(B24:Nat)=2^24:=by decide
 rw[e];omega
theorem zq5(a:Nat)(h:a<2^63):X2 .and .i64 (a:Int) 1=((a%2:Nat):Int):=by
 show IntKind.i64.wrap (((BitVec.ofInt 64 (a:Int)&&&BitVec.ofInt 64 ((1:Nat):Int)).toNat:Nat):Int)=_
 rw[BitVec.ofInt_natCast,BitVec.ofInt_natCast,BitVec.toNat_and,BitVec.toNat_ofNat,BitVec.toNat_ofNat,Nat.mod_eq_of_lt (by omega:a<2^64),show(1:Nat)%2^64=1 by decide,Nat.and_one_is_mod,w64 (by omega)]
end Go.Fw
