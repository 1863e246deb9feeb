/- A part of the proof that the law returns true for every input: an executor for the model's code, and what functions of the program compute. -/
import Derived.Test.YtcafjpldfnegiaaGreatDoorB11
import Derived.Test.YtcafjpldfnegiaaGreatDoorB15
import Derived.Test.YtcafjpldfnegiaaGreatDoorB28
import Derived.KernelRfl
open Go IntKind
namespace Go.Fw
set_option maxRecDepth 100000
theorem za0 {R : Goal} (hn : j9 R.n [0] = true) (hF : R.Fresh) (xs ys : List Nat) (hle : ys.length ≤ xs.length) (hlen : xs.length < 2 ^ 40) (hx : Dig B24 xs) (hy : Dig B24 ys) (hv0 : val B24 ys ≤ val B24 xs)
    (hR: ∀zs:List Nat,zs.length=xs.length→Dig B24 zs→val B24 zs=val B24 xs-val B24 ys→R.m (.sl 0 0 (tz zs).length 1) [some (own (j3 zs))]):
    ∀(k i:Nat) (zs:List Nat) (c:Nat),xs.length-i=k→i≤xs.length→zs.length=xs.length→Dig B24 zs→c≤1→
     val B24 (zs.take i)+val B24 (ys.take i)=val B24 (xs.take i)+c*B24^i→
     Ok P 199 (loopHead P 199 0) ⟨J3 44 [(0,.cv (.lst xs.length (j3 xs))),(1,.cv (.lst ys.length (j3 ys))),(5,.sl 0 0 xs.length 1),(6,.cv (j7 (c:Int))),(7,.cv (j7 (i:Int)))],[some (own (j3 zs))]⟩ R:=by
 intro k
 induction k with
 |zero=>
  intro i zs c hk hi hz hd hc hv
  have:i=xs.length:=by omega
  subst this
  refine zhb _ _ _ _ _ _ _ _ (by simp) hz.symm (by omega) (BlksCv.two (J0 _) (J0 _)) hF (hR zs hz hd ?_)
  rw[List.take_of_length_le (by omega),List.take_length,z01 hle]at hv
  have hzl:=z0s (by decide:0<B24) zs hd
  rw[hz]at hzl
  have hc0:c=0∨c=1:=by omega
  rcases hc0 with rfl|rfl
  · omega
  · omega
 |succ k ih=>
  intro i zs c hk hi hz hd hc hv
  have hlt:i<xs.length:=by omega
  have e1:(i:Int).toNat*1=i:=by omega
  have e2:(0:Nat)+(i:Int).toNat*1=i:=by omega
  have e3:i64.wrap ((i:Int)+1)=((i+1:Nat):Int):=by rw[w64 (by omega)];omega
  have gx:=W7 (xs:=xs) (i:=(i:Int).toNat*1) (by omega)
  have dx:=hx.get (by decide) i
  have dy:=hy.get (by decide) i
  have hdg: ∀s:Nat,s%B24<B24:=fun s=>Nat.mod_lt _ (by decide)
  have key: ∀y' d c':Nat,y'=ys.getD i 0→d+y'+c=xs.getD i 0+B24*c'→val B24 ((zs.set i d).take (i+1))+val B24 (ys.take (i+1))=val B24 (xs.take (i+1))+c'*B24^(i+1):=by
   intro y' d c' hy' h
   rw[U1 (by omega),Z8,Z8,←hy',Nat.pow_succ]
   exact z81 _ _ _ _ _ _ _ _ _ _ hv h
  have hset: ∀d:Nat,j4 (own (j3 zs)) (0+(i:Int).toNat*1) [.cv (.lit (.int .i64 (d:Int)))]=own (j3 (zs.set i d)):=by
   intro d;rw[e2];exact Q7 (by omega)
  simp only[B24]at dx dy
  by_cases hi2:i<ys.length
  · have gy:=W7 (xs:=ys) (i:=(i:Int).toNat*1) (by omega)
    have hs:i64.wrap (i64.wrap (((xs.getD ((i:Int).toNat*1) 0:Nat):Int)-(c:Int))-((ys.getD ((i:Int).toNat*1) 0:Nat):Int))=(xs.getD i 0:Int)-c-ys.getD i 0:=by
     rw[e1,w64 (n:=(xs.getD i 0:Int)-(c:Int)) (by omega),w64 (by omega)]
    by_cases hneg:xs.getD i 0<c+ys.getD i 0
    · have hw : i64.wrap (i64.wrap (i64.wrap (((xs.getD ((i : Int).toNat * 1) 0 : Nat) : Int) - (c : Int)) - ((ys.getD ((i : Int).toNat * 1) 0 : Nat) : Int)) + 16777216) = ((xs.getD i 0 + 16777216 - c - ys.getD i 0 : Nat) : Int) := by
        rw[hs,w64 (by omega)];omega
      refine zhw _ _ _ _ _ _ _ _ (decide_eq_true (by omega)) (decide_eq_true (by omega)) (decide_eq_true (by rw[hs];omega)) (by omega) gx (by omega) gy (by omega) (by rw[e2,J4,Q9];omega) (by rw[hw,hset];exact J0 _) hn ?_
      rw[hw,hset,e3]
      exact ih (i+1) _ 1 (by omega) (by omega) (by simpa using hz) (hd.set (by simp only[B24];omega) _) (by omega) (key _ _ 1 rfl (by simp only[B24];omega))
    · have hw : i64.wrap (i64.wrap (((xs.getD ((i : Int).toNat * 1) 0 : Nat) : Int) - (c : Int)) - ((ys.getD ((i : Int).toNat * 1) 0 : Nat) : Int)) = ((xs.getD i 0 - c - ys.getD i 0 : Nat) : Int) := by
        rw[hs];omega
      refine zjC _ _ _ _ _ _ _ _ (decide_eq_true (by omega)) (decide_eq_true (by omega)) (decide_eq_false (by rw[hs];omega)) (by omega) gx (by omega) gy (by omega) (by rw[e2,J4,Q9];omega) (by rw[hw,hset];exact J0 _) hn ?_
      rw[hw,hset,e3]
      exact ih (i+1) _ 0 (by omega) (by omega) (by simpa using hz) (hd.set (by simp only[B24];omega) _) (by omega) (key _ _ 0 rfl (by omega))
  · have hy0:ys.getD i 0=0:=z3I (by omega)
    have hs:i64.wrap (((xs.getD ((i:Int).toNat*1) 0:Nat):Int)-(c:Int))=(xs.getD i 0:Int)-c:=by rw[e1,w64 (by omega)]
    by_cases hneg:xs.getD i 0<c
    · have hw : i64.wrap (i64.wrap (((xs.getD ((i : Int).toNat * 1) 0 : Nat) : Int) - (c : Int)) + 16777216) = ((xs.getD i 0 + 16777216 - c : Nat) : Int) := by
        rw[hs,w64 (by omega)];omega
      refine zje _ _ _ _ _ _ _ _ (decide_eq_true (by omega)) (decide_eq_false (by omega)) (decide_eq_true (by rw[hs];omega)) (by omega) gx (by omega) (by rw[e2,J4,Q9];omega) (by rw[hw,hset];exact J0 _) hn ?_
      rw[hw,hset,e3]
      exact ih (i+1) _ 1 (by omega) (by omega) (by simpa using hz) (hd.set (by simp only[B24];omega) _) (by omega) (key 0 _ 1 hy0.symm (by simp only[B24];omega))
    · have hw:i64.wrap (((xs.getD ((i:Int).toNat*1) 0:Nat):Int)-(c:Int))=((xs.getD i 0-c:Nat):Int):=by rw[hs];omega
      refine zgQ _ _ _ _ _ _ _ _ (decide_eq_true (by omega)) (decide_eq_false (by omega)) (decide_eq_false (by rw[hs];omega)) (by omega) gx (by omega) (by rw[e2,J4,Q9];omega) (by rw[hw,hset];exact J0 _) hn ?_
      rw[hw,hset,e3]
      exact ih (i+1) _ 0 (by omega) (by omega) (by simpa using hz) (hd.set (by simp only[B24];omega) _) (by omega) (key 0 _ 0 hy0.symm (by omega))
theorem z64{b:Nat}(hb:0<b): ∀(zs:List Nat),Dig b zs→zs=Z1 b zs.length (val b zs):=fun zs hd=>(z0u hb zs hd).symm
theorem z5Q(a b:Nat)(ha:(dig B24 a).length<2^40)(hb:b≤a):FCall P 199 [z4d a,z4d b] (.sl 0 0 (dig B24 (a-b)).length 1) (j3 (Z1 B24 (dig B24 a).length (a-b))):=by
 have e:((dig B24 a).length:Int).toNat*1=(dig B24 a).length:=by omega
 refine zkm _ _ _ _ (by omega) (by rw[z0g];exact J0 _) ?_
 rw[z0g,e,Int.toNat_natCast]
 refine za0 (R:= .fresh _) rfl ⟨rfl,rfl⟩ (dig B24 a) (dig B24 b) (Z4 (by decide) hb) ha (W1 (by decide) _) (W1 (by decide) _) (by rw[Q5 (by decide),Q5 (by decide)];exact hb) ?_ _ 0
  (List.replicate (dig B24 a).length 0) 0 rfl (Nat.zero_le _) (by simp) (Dig.replicate (by decide) _) (by omega) (by simp[val])
 intro zs hz hd hv
 rw[Q5 (by decide),Q5 (by decide)]at hv
 have h1:=z64 (by decide:0<B24) zs hd
 rw[hz,hv]at h1
 have h2:=z0W (by decide:2≤B24) zs hd
 rw[hv]at h2
 refine⟨j3 zs,rfl,?_,?_⟩
 · rw[h2]
 · rw[←h1]
theorem zkb(j n:Nat)(xs:List Nat){Q:MV→List Blk→Prop}(hR:Ok P 234 (loopHead P 234 0) ⟨J3 21 [(0,.sl 0 j n 1)],[some (own (j3 xs))]⟩ (.lent [some (own (j3 xs))].length Q)):z2B P 234 [some (own (j3 xs))] [.sl 0 j n 1] Q:=
 z76 (keep:=[0]) (σ:=[0]) (ors:=[(1,.stop)]) (by kernel_rfl) rfl (.cons (show CvL (own (j3 xs))from(J0 _)) .nil) rfl hR
theorem ziY(j n:Nat)(xs:List Nat)(h1:decide ((n:Int)>0)=true)(h2:((↑(xs.getD (j+(i64.wrap ((n:Int)-1)).toNat*1) 0):Int)==0)=true)(o1:(0:Int)≤i64.wrap ((n:Int)-1)∧i64.wrap ((n:Int)-1)<(n:Int))(o2:(own (j3 xs))[j+(i64.wrap ((n:Int)-1)).toNat*1]?=some (.cv (.lit (.int .i64 (↑(xs.getD (j+(i64.wrap ((n:Int)-1)).toNat*1) 0):Int)))))(o5:(0:Int)≤0∧(0:Int)≤i64.wrap ((n:Int)-1)∧i64.wrap ((n:Int)-1)≤(n:Int)∧((0:Int)=0∨(0:Int)<i64.wrap ((n:Int)-1))){R:Goal}(hn:j9 R.n [0]=true)(hR:Ok P 234 (loopHead P 234 0) ⟨J3 21 [(0,.sl 0 (j+0) (i64.wrap ((n:Int)-1)-0).toNat 1)],[some (own (j3 xs))]⟩ R):Ok P 234 (loopHead P 234 0) ⟨J3 21 [(0,.sl 0 j n 1)],[some (own (j3 xs))]⟩ R:=
 z0S (m:=1) (keep:=[0]) (σ:=[0]) (.b 4 h1 (.c o1 (.e 10 o2 (.c (eqn 1) (.b 13 h2 (.c o5 (.o 20 .stop .nil))))))) (by kernel_rfl) rfl hn hR (.cons (J0 _) .nil)
theorem zid(j n:Nat)(xs:List Nat)(h1:decide ((n:Int)>0)=true)(h2:((↑(xs.getD (j+(i64.wrap ((n:Int)-1)).toNat*1) 0):Int)==0)=false)(o1:(0:Int)≤i64.wrap ((n:Int)-1)∧i64.wrap ((n:Int)-1)<(n:Int))(o2:(own (j3 xs))[j+(i64.wrap ((n:Int)-1)).toNat*1]?=some (.cv (.lit (.int .i64 (↑(xs.getD (j+(i64.wrap ((n:Int)-1)).toNat*1) 0):Int)))))(o6:BlksCv [some (own (j3 xs))]){R:Goal}(hn:R.Lent 1)(hR:R.m (.sl 0 j n 1) [some (own (j3 xs))]):Ok P 234 (loopHead P 234 0) ⟨J3 21 [(0,.sl 0 j n 1)],[some (own (j3 xs))]⟩ R:=
 zfN (ors:=[(4,.b true),(10,.e (.cv (.lit (.int .i64 (↑(xs.getD (j+(i64.wrap ((n:Int)-1)).toNat*1) 0):Int))))),(13,.b false),(16,.a)]) (by kernel_rfl) (.cons h1 (.cons o1 (.cons o2 (.cons (eqn 1) (.cons h2 (.cons (lq 1 1) (.cons o6 .nil))))))) hn hR
theorem zh3(j n:Nat)(xs:List Nat)(h1:decide ((n:Int)>0)=false)(o2:BlksCv [some (own (j3 xs))]){R:Goal}(hn:R.Lent 1)(hR:R.m (.sl 0 j n 1) [some (own (j3 xs))]):Ok P 234 (loopHead P 234 0) ⟨J3 21 [(0,.sl 0 j n 1)],[some (own (j3 xs))]⟩ R:=
 zfN (ors:=[(4,.b false),(16,.a)]) (by kernel_rfl) (.cons h1 (.cons (lq 1 1) (.cons o2 .nil))) hn hR
theorem z6Z(xs:List Nat)(j k:Nat):(xs.drop j).getD k 0=xs.getD (j+k) 0:=by
 simp[List.getD_eq_getElem?_getD,List.getElem?_drop]
theorem z8n {R : Goal} (hn : j9 R.n [0] = true) (hL : R.Lent 1) (j n : Nat) (xs : List Nat) (hj : j + n ≤ xs.length) (hl : xs.length < 2 ^ 60)
    (hR:R.m (.sl 0 j (tz ((xs.drop j).take n)).length 1) [some (own (j3 xs))]): ∀(k:Nat),k≤n→tz ((xs.drop j).take k)=tz ((xs.drop j).take n)→
    Ok P 234 (loopHead P 234 0) ⟨J3 21 [(0,.sl 0 j k 1)],[some (own (j3 xs))]⟩ R:=by
 intro k
 induction k with
 |zero=>
  intro hk ht
  rw[←ht,List.take_zero]at hR
  exact zh3 j 0 xs (by decide) (BlksCv.one (J0 _)) hL hR
 |succ k ih=>
  intro hk ht
  have hw:i64.wrap (((k+1:Nat):Int)-1)=(k:Int):=by rw[w64 (by omega)];omega
  have e0:j+(k:Int).toNat*1=j+k:=by omega
  have hts:=z0x (xs:=xs.drop j) (i:=k) (by rw[List.length_drop];omega)
  rw[z6Z]at hts
  have hg:=X1 (W7 (xs:=xs) (i:=j+k) (by omega))
  by_cases hx:xs.getD (j+k) 0=0
  · refine ziY j (k+1) xs (by simp) (by rw[hw,e0];exact beq_iff_eq.2 (by omega)) (by rw[hw];omega) (by rw[hw,e0];exact hg) (by rw[hw];omega) hn ?_
    rw[hw]
    have h1:((k:Int)-0).toNat=k:=by omega
    rw[h1]
    exact ih (by omega) (by rw[←ht,hts,hx,Y1])
  · have:(tz ((xs.drop j).take n)).length=k+1:=by rw[←ht,hts,z0F hx];simp;omega
    rw[this]at hR
    exact zid j (k+1) xs (by simp) (by rw[hw,e0];exact beq_eq_false_iff_ne.2 (by omega)) (by rw[hw];omega) (by rw[hw,e0];exact hg) (BlksCv.one (J0 _)) hL hR
theorem zeX(j n:Nat)(xs:List Nat)(hj:j+n≤xs.length)(hl:xs.length<2^60):z1K P 234 [some (own (j3 xs))] [.sl 0 j n 1] (.sl 0 j (tz ((xs.drop j).take n)).length 1) [some (own (j3 xs))]:=
 zkb _ _ _ (z8n (R:= .lent 1 (fun a b=>a= .sl 0 j (tz ((xs.drop j).take n)).length 1∧b=[some (own (j3 xs))])) rfl ⟨rfl,rfl⟩ j n xs hj hl ⟨rfl,rfl⟩ n (Nat.le_refl _) rfl)
theorem zkZ(n:Nat)(xs:List Nat){Q:MV→List Blk→Prop}(hR:Ok P 231 (loopHead P 231 0) ⟨J3 62 [(0,.sl 0 0 n 1),(4,.cv (.lit (.int .i64 0)))],[some (own (j3 xs))]⟩ (.lent [some (own (j3 xs))].length Q)):z2B P 231 [some (own (j3 xs))] [.sl 0 0 n 1] Q:=
 z76 (keep:=[0,4]) (σ:=[0]) (ors:=[(3,.stop)]) (by kernel_rfl) rfl (.cons (show CvL (own (j3 xs))from(J0 _)) .nil) rfl hR
theorem zjH(j n c:Nat)(xs:List Nat)(h1:((↑(xs.getD (j+0) 0):Int)==0)=true)(o0:(0:Int)≤0∧(0:Int)<n)(o1:(own (j3 xs))[j+0]?=some (.cv (.lit (.int .i64 ↑(xs.getD (j+0) 0)))))(o4:(0:Int)≤1∧(1:Int)≤n∧(n:Int)≤n∧((1:Int)=0∨(1:Int)<n)){R:Goal}(hn:j9 R.n [0]=true)(hR:Ok P 231 (loopHead P 231 0) ⟨J3 62 [(0,.sl 0 (j+1) ((n:Int)-1).toNat 1),(4,.cv (.lit (.int .i64 (i64.wrap ((c:Int)+24)))))],[some (own (j3 xs))]⟩ R):Ok P 231 (loopHead P 231 0) ⟨J3 62 [(0,.sl 0 j n 1),(4,.cv (j7 (c:Int)))],[some (own (j3 xs))]⟩ R:=
 z0S (m:=1) (keep:=[0,4]) (σ:=[0]) (.c o0 (.e 3 o1 (.c (eqn 1) (.b 5 h1 (.c o4 (.o 12 .stop .nil)))))) (by kernel_rfl) rfl hn hR (.cons (J0 _) .nil)
theorem ziE(j n c:Nat)(xs:List Nat)(h1:((↑(xs.getD (j+0) 0):Int)==0)=false)(o0:(0:Int)≤0∧(0:Int)<n)(o1:(own (j3 xs))[j+0]?=some (.cv (.lit (.int .i64 ↑(xs.getD (j+0) 0))))){R:Goal}(hn:j9 R.n [0]=true)(hR:Ok P 231 (loopHead P 231 1) ⟨J3 62 [(0,.sl 0 j n 1),(4,.cv (.lit (.int .i64 (c:Int)))),(5,.cv (.lit (.int .i64 0)))],[some (own (j3 xs))]⟩ R):Ok P 231 (loopHead P 231 0) ⟨J3 62 [(0,.sl 0 j n 1),(4,.cv (j7 (c:Int)))],[some (own (j3 xs))]⟩ R:=
 z0S (m:=1) (keep:=[0,4,5]) (σ:=[0]) (.c o0 (.e 3 o1 (.c (eqn 1) (.b 5 h1 (.o 7 .stop .nil))))) (by kernel_rfl) rfl hn hR (.cons (J0 _) .nil)
theorem zjm(j n c k:Nat)(xs:List Nat)(h1:(X5 BinOp.and i64 ((↑(xs.getD (j+0) 0):Int).fdiv ((2:Int)^min (k:Int).toNat 64)) (1:Int)==0)=true)(o0:(0:Int)≤0∧(0:Int)<n)(o1:(own (j3 xs))[j+0]?=some (.cv (.lit (.int .i64 ↑(xs.getD (j+0) 0)))))(o3:(0:Int)≤k){R:Goal}(hn:j9 R.n [0]=true)(hR:Ok P 231 (loopHead P 231 1) ⟨J3 62 [(0,.sl 0 j n 1),(4,.cv (.lit (.int .i64 (c:Int)))),(5,.cv (.lit (.int .i64 (i64.wrap ((k:Int)+1)))))],[some (own (j3 xs))]⟩ R):Ok P 231 (loopHead P 231 1) ⟨J3 62 [(0,.sl 0 j n 1),(4,.cv (j7 (c:Int))),(5,.cv (j7 (k:Int)))],[some (own (j3 xs))]⟩ R:=
 z0S (m:=1) (keep:=[0,4,5]) (σ:=[0]) (.c o0 (.e 3 o1 (.c (eqn 1) (.c o3 (.b 8 h1 (.o 12 .stop .nil)))))) (by kernel_rfl) rfl hn hR (.cons (J0 _) .nil)
theorem zhm(j n c k:Nat)(xs:List Nat)(h1:(X5 BinOp.and i64 ((↑(xs.getD (j+0) 0):Int).fdiv ((2:Int)^min (k:Int).toNat 64)) (1:Int)==0)=false)(o0:(0:Int)≤0∧(0:Int)<n)(o1:(own (j3 xs))[j+0]?=some (.cv (.lit (.int .i64 ↑(xs.getD (j+0) 0)))))(o3:(0:Int)≤k){R:Goal}(hn:j9 R.n [0]=true)(hR:Ok P 231 (loopHead P 231 2) ⟨J3 62 [(0,.sl 0 j n 1),(4,.cv (.lit (.int .i64 (c:Int)))),(5,.cv (.lit (.int .i64 (k:Int)))),(6,.cv (.lit (.int .i64 0)))],[some (own (j3 xs))]⟩ R):Ok P 231 (loopHead P 231 1) ⟨J3 62 [(0,.sl 0 j n 1),(4,.cv (j7 (c:Int))),(5,.cv (j7 (k:Int)))],[some (own (j3 xs))]⟩ R:=
 z0S (m:=1) (keep:=[0,4,5,6]) (σ:=[0]) (.c o0 (.e 3 o1 (.c (eqn 1) (.c o3 (.b 8 h1 (.o 10 .stop .nil)))))) (by kernel_rfl) rfl hn hR (.cons (J0 _) .nil)
theorem zi1(j n c k i:Nat)(xs:List Nat)(p q:Int)(h1:decide ((i:Int)<n)=true)(h2:decide (i64.wrap ((i:Int)+1)<(n:Int))=true)(o1:(0:Int)≤i∧(i:Int)<n)(o2:(own (j3 xs))[j+(i:Int).toNat*1]?=some (.cv (.lit (.int .i64 ↑(xs.getD (j+(i:Int).toNat*1) 0)))))(o4:(0:Int)≤k)(o5:(0:Int)≤i∧(i:Int)<n)(o6:j+(i:Int).toNat*1+1≤(own (j3 xs)).length)(o8:(0:Int)≤i∧(i:Int)<n)(o9:(j4 (own (j3 xs)) (j+(i:Int).toNat*1) [.cv (.lit (.int .i64 ((↑(xs.getD (j+(i:Int).toNat*1) 0):Int).fdiv ((2:Int)^min (k:Int).toNat 64))))])[j+(i:Int).toNat*1]?=some (.cv (.lit (.int .i64 p))))(o11:(0:Int)≤i64.wrap ((i:Int)+1)∧i64.wrap ((i:Int)+1)<(n:Int))(o12:(j4 (own (j3 xs)) (j+(i:Int).toNat*1) [.cv (.lit (.int .i64 ((↑(xs.getD (j+(i:Int).toNat*1) 0):Int).fdiv ((2:Int)^min (k:Int).toNat 64))))])[j+(i64.wrap ((i:Int)+1)).toNat*1]?=some (.cv (.lit (.int .i64 q))))(o14:(0:Int)≤i64.wrap ((24:Int)-k))(o16:(0:Int)≤i∧(i:Int)<n)(o17:j+(i:Int).toNat*1+1≤(j4 (own (j3 xs)) (j+(i:Int).toNat*1) [.cv (.lit (.int .i64 ((↑(xs.getD (j+(i:Int).toNat*1) 0):Int).fdiv ((2:Int)^min (k:Int).toNat 64))))]).length)(o18:CvL (j4 (j4 (own (j3 xs)) (j+(i:Int).toNat*1) [.cv (.lit (.int .i64 ((↑(xs.getD (j+(i:Int).toNat*1) 0):Int).fdiv ((2:Int)^min (k:Int).toNat 64))))]) (j+(i:Int).toNat*1) [.cv (.lit (.int .i64 (i64.wrap (p+(i64.wrap (q*2^min (i64.wrap ((24:Int)-k)).toNat 64)).tmod 16777216))))])){R:Goal}(hn:j9 R.n [0]=true)(hR:Ok P 231 (loopHead P 231 2) ⟨J3 62 [(0,.sl 0 j n 1),(4,.cv (.lit (.int .i64 (c:Int)))),(5,.cv (.lit (.int .i64 (k:Int)))),(6,.cv (.lit (.int .i64 (i64.wrap ((i:Int)+1)))))],[some (j4 (j4 (own (j3 xs)) (j+(i:Int).toNat*1) [.cv (.lit (.int .i64 ((↑(xs.getD (j+(i:Int).toNat*1) 0):Int).fdiv ((2:Int)^min (k:Int).toNat 64))))]) (j+(i:Int).toNat*1) [.cv (.lit (.int .i64 (i64.wrap (p+(i64.wrap (q*2^min (i64.wrap ((24:Int)-k)).toNat 64)).tmod 16777216))))])]⟩ R):Ok P 231 (loopHead P 231 2) ⟨J3 62 [(0,.sl 0 j n 1),(4,.cv (j7 (c:Int))),(5,.cv (j7 (k:Int))),(6,.cv (j7 (i:Int)))],[some (own (j3 xs))]⟩ R:=
 z0S (m:=1) (keep:=[0,4,5,6]) (σ:=[0]) (.b 5 h1 (.c o1 (.e 9 o2 (.c (eqn 1) (.c o4 (.c o5 (.c o6 (.b 19 h2 (.c o8 (.c o9 (.c (eqn 1) (.c o11 (.c o12 (.c (eqn 1) (.c o14 (.c (nz 16777216) (.c o16 (.c o17 (.o 23 (.e (.cv (j7 p))) (.o 28 (.e (.cv (j7 q))) (.o 39 .stop .nil))))))))))))))))))))) (by kernel_rfl) rfl hn hR (.cons o18 .nil)
theorem zgT(j n c k i:Nat)(xs:List Nat)(h1:decide ((i:Int)<n)=true)(h2:decide (i64.wrap ((i:Int)+1)<(n:Int))=false)(o1:(0:Int)≤i∧(i:Int)<n)(o2:(own (j3 xs))[j+(i:Int).toNat*1]?=some (.cv (.lit (.int .i64 ↑(xs.getD (j+(i:Int).toNat*1) 0)))))(o4:(0:Int)≤k)(o5:(0:Int)≤i∧(i:Int)<n)(o6:j+(i:Int).toNat*1+1≤(own (j3 xs)).length)(o8:CvL (j4 (own (j3 xs)) (j+(i:Int).toNat*1) [.cv (.lit (.int .i64 ((↑(xs.getD (j+(i:Int).toNat*1) 0):Int).fdiv ((2:Int)^min (k:Int).toNat 64))))])){R:Goal}(hn:j9 R.n [0]=true)(hR:Ok P 231 (loopHead P 231 2) ⟨J3 62 [(0,.sl 0 j n 1),(4,.cv (.lit (.int .i64 (c:Int)))),(5,.cv (.lit (.int .i64 (k:Int)))),(6,.cv (.lit (.int .i64 (i64.wrap ((i:Int)+1)))))],[some (j4 (own (j3 xs)) (j+(i:Int).toNat*1) [.cv (.lit (.int .i64 ((↑(xs.getD (j+(i:Int).toNat*1) 0):Int).fdiv ((2:Int)^min (k:Int).toNat 64))))])]⟩ R):Ok P 231 (loopHead P 231 2) ⟨J3 62 [(0,.sl 0 j n 1),(4,.cv (j7 (c:Int))),(5,.cv (j7 (k:Int))),(6,.cv (j7 (i:Int)))],[some (own (j3 xs))]⟩ R:=
 z0S (m:=1) (keep:=[0,4,5,6]) (σ:=[0]) (.b 5 h1 (.c o1 (.e 9 o2 (.c (eqn 1) (.c o4 (.c o5 (.c o6 (.b 19 h2 (.o 23 .stop .nil))))))))) (by kernel_rfl) rfl hn hR (.cons o8 .nil)
theorem ziq(j n c k i:Nat)(xs:List Nat)(h1:decide ((i:Int)<n)=false)(d:j+n≤xs.length)(e:xs.length<2^60)(o2:BlksCv [some (own (j3 xs)),some (own (j3 xs))])(o4:BlksCv [some (own (j3 xs))]){R:Goal}(hn:R.Lent 1)(hR:R.m (.tup [.sl 0 j (tz (List.take n (List.drop j xs))).length 1,.cv (.lit (.int .i64 (i64.wrap ((c:Int)+k))))]) [some (own (j3 xs))]):Ok P 231 (loopHead P 231 2) ⟨J3 62 [(0,.sl 0 j n 1),(4,.cv (j7 (c:Int))),(5,.cv (j7 (k:Int))),(6,.cv (j7 (i:Int)))],[some (own (j3 xs))]⟩ R:=
 zfN (ors:=[(5,.b false),(7,.m [0] (.sl 0 j (tz (List.take n (List.drop j xs))).length 1) [some (own (j3 xs))]),(13,.a)]) (by kernel_rfl) (.cons h1 (.cons (zeX j n xs d e) (.cons o2 (.cons (lq 1 2) (.cons o4 .nil))))) hn hR
theorem zb9(A P Q:Nat)(hP:0<P)(hQ:0<Q):A/Q%(Q*P)=A%(Q*P)/Q+(A/(Q*P)%(Q*P))*P%(Q*P):=by
 have hA:=Nat.mod_add_div A (Q*P)
 generalize hA1:A/(Q*P)=A1 at hA ⊢
 generalize ha0:A%(Q*P)=a0 at hA ⊢
 have hlt:a0<Q*P:=by rw[←ha0];exact Nat.mod_lt _ (Nat.mul_pos hQ hP)
 have h1:A/Q=a0/Q+P*A1:=by
  rw[←hA,Nat.mul_assoc,Nat.add_mul_div_left _ _ hQ]
 have h2:a0/Q<P:=(Nat.div_lt_iff_lt_mul hQ).2 (by rw[Nat.mul_comm];exact hlt)
 have h3:A1%(Q*P)*P%(Q*P)=P*(A1%Q):=by
  rw[Nat.mul_comm (A1%(Q*P)) P,Nat.mul_comm Q P,Nat.mul_mod_mul_left,Nat.mul_comm P Q,Nat.mod_mul_right_mod]
 have h4:A1%Q+1≤Q:=Nat.mod_lt _ hQ
 have h5:P*(A1%Q)+P≤Q*P:=by
  calc P*(A1%Q)+P=P*(A1%Q+1):=by rw[Nat.mul_add,Nat.mul_one]
   _≤P*Q:=Nat.mul_le_mul_left _ h4
   _=Q*P:=Nat.mul_comm _ _
 have h6:P*A1=P*(A1%Q)+(A1/Q)*(Q*P):=by
  have:=Nat.mod_add_div A1 Q
  calc P*A1=P*(A1%Q+Q*(A1/Q)):=by rw[this]
   _=P*(A1%Q)+(A1/Q)*(Q*P):=by rw[Nat.mul_add,Nat.mul_comm (A1/Q),Nat.mul_comm Q P,←Nat.mul_assoc]
 rw[h1,h3,h6,←Nat.add_assoc,Nat.add_mul_mod_self_right,Nat.mod_eq_of_lt (by omega)]
theorem z8C(A k:Nat)(hk:k≤24):A/2^k%B24=A%B24/2^k+(A/B24%B24)*2^(24-k)%B24:=by
 have e:B24=2^k*2^(24-k):=by rw[←Nat.pow_add,show k+(24-k)=24 by omega]
 rw[e]
 exact zb9 A _ _ (Nat.pow_pos (by decide)) (Nat.pow_pos (by decide))
theorem zcK(u k:Nat)(hk:k<24):u%B24/2^k%2=u/2^k%2:=by
 have h:=Nat.testBit_mod_two_pow u 24 k
 rw[decide_eq_true hk,Bool.true_and]at h
 simp only[Nat.testBit_eq_decide_div_mod_eq,decide_eq_decide]at h
 have e:(B24:Nat)=2^24:=by decide
 rw[e];omega
theorem zoC(a:Nat)(h:a<2^63):X5 .and .i64 (a:Int) 1=((a%2:Nat):Int):=by
 show i64.wrap (((BitVec.ofInt 64 (a:Int)&&&BitVec.ofInt 64 ((1:Nat):Int)).toNat:Nat):Int)=_
 rw[BitVec.ofInt_natCast,BitVec.ofInt_natCast,BitVec.toNat_and,BitVec.toNat_ofNat,BitVec.toNat_ofNat,Nat.mod_eq_of_lt (by omega:a<2^64),show(1:Nat)%2^64=1 by decide,Nat.and_one_is_mod,w64 (by omega)]
theorem zcS(xs:List Nat)(i m d:Nat)(h:i<xs.length):(xs.set i d).getD m 0=if m=i then d else xs.getD m 0:=by
 by_cases e:m=i
 · subst e;rw[if_pos rfl,z33 h]
 · rw[if_neg e,z13 (fun h=>e h.symm)]
theorem z6J{xs ys:List Nat}(hl:xs.length=ys.length)(h: ∀m,m<xs.length→xs.getD m 0=ys.getD m 0):xs=ys:=by
 refine List.ext_getElem hl fun m h1 h2=>?_
 have:=h m h1
 simpa[List.getD_eq_getElem?_getD,List.getElem?_eq_getElem h1,List.getElem?_eq_getElem h2]using this
def Y9(xs:List Nat)(j n w:Nat):List Nat:=xs.take j++Z1 B24 n w++xs.drop (j+n)
theorem z3i{xs:List Nat}{j n w:Nat}(h:j+n≤xs.length):(Y9 xs j n w).length=xs.length:=by
 simp[Y9,j8];omega
theorem z5z{xs:List Nat}{j n w:Nat}(h:j+n≤xs.length):((Y9 xs j n w).drop j).take n=Z1 B24 n w:=by
 have h1:(xs.take j).length=j:=by simp;omega
 rw[Y9,List.append_assoc,List.drop_append_of_le_length (by omega),List.drop_eq_nil_of_le (by omega),List.nil_append,List.take_append_of_le_length (by rw[j8];omega),List.take_of_length_le (by rw[j8];omega)]
theorem z67{a b:List Nat}{m:Nat}(h:m<a.length):(a++b).getD m 0=a.getD m 0:=by
 simp[List.getD_eq_getElem?_getD,List.getElem?_append_left h]
theorem z60{a b:List Nat}{m:Nat}(h:a.length≤m):(a++b).getD m 0=b.getD (m-a.length) 0:=by
 simp[List.getD_eq_getElem?_getD,List.getElem?_append_right h]
theorem zah{xs:List Nat}{j n w m:Nat}(h:j+n≤xs.length)(_hm:m<xs.length):(Y9 xs j n w).getD m 0=if j≤m∧m<j+n then w/B24^(m-j)%B24 else xs.getD m 0:=by
 have h1:(xs.take j).length=j:=by simp;omega
 have h2:(xs.take j++Z1 B24 n w).length=j+n:=by simp[j8];omega
 unfold Y9
 by_cases c1:m<j
 · rw[if_neg (by omega),List.append_assoc,z67 (by omega)]
   simp[List.getD_eq_getElem?_getD,c1]
 · by_cases c2:m<j+n
   · rw[if_pos (by omega),z67 (by omega),z60 (by omega),h1,X8 _ _ _ _ (by omega)]
   · rw[if_neg (by omega),z60 (by omega),h2,z6Z]
     congr 1;omega
section
variable{R:Goal}(hn:j9 R.n [0]=true)(hL:R.Lent 1)
include hn
theorem z4K (xs : List Nat) (j n c k u w : Nat) (hk : k < 24) (hu : u = 2 ^ k * w) (hw : u < B24 ^ n) (hx : ∀ m, m < n → xs.getD (j + m) 0 = u / B24 ^ m % B24) (hj : j + n ≤ xs.length) (hl : xs.length < 2 ^ 40) (hc : c < 2 ^ 50)
    (hR: ∀zs:List Nat,zs=Y9 xs j n w→Ok P 231 (loopHead P 231 2) ⟨J3 62 [(0,.sl 0 j n 1),(4,.cv (j7 (c:Int))),(5,.cv (j7 (k:Int))),(6,.cv (j7 (n:Int)))],[some (own (j3 zs))]⟩ R):
    ∀(d i:Nat) (zs:List Nat),i+d=n→zs.length=xs.length→(∀m,m<xs.length→zs.getD m 0=if j≤m∧m<j+i then w/B24^(m-j)%B24 else xs.getD m 0)→
     Ok P 231 (loopHead P 231 2) ⟨J3 62 [(0,.sl 0 j n 1),(4,.cv (j7 (c:Int))),(5,.cv (j7 (k:Int))),(6,.cv (j7 (i:Int)))],[some (own (j3 zs))]⟩ R
 |0,i,zs,hi,hz,hg=>by
  have:i=n:=by omega
  subst this
  exact hR zs (z6J (by rw[hz,z3i hj]) fun m hm=>by rw[hg m (by omega),zah hj (by omega)])
 |d+1,i,zs,hi,hz,hg=>by
  have e1:j+(i:Int).toNat*1=j+i:=by omega
  have ew:i64.wrap ((i:Int)+1)=((i+1:Nat):Int):=by rw[w64 (by omega)];omega
  have z0:zs.getD (j+i) 0=u/B24^i%B24:=by rw[hg _ (by omega),if_neg (by omega),hx i (by omega)]
  have hg0:=X1 (W7 (xs:=zs) (i:=j+i) (by omega))
  have hfd:((zs.getD (j+i) 0:Nat):Int).fdiv (2^min (k:Int).toNat 64)=((zs.getD (j+i) 0/2^k:Nat):Int):=by
   rw[Int.toNat_natCast,Nat.min_eq_left (by omega)]
   have h2:(0:Int)<2^k:=Int.pow_pos (by decide)
   rw[Int.fdiv_eq_ediv_of_nonneg _ (by omega)]
   norm_cast
  have hset: ∀v:Nat,j4 (own (j3 zs)) (j+(i:Int).toNat*1) [.cv (.lit (.int .i64 (v:Int)))]=own (j3 (zs.set (j+i) v)):=by
   intro v;rw[e1];exact Q7 (by omega)
  have wi:w/B24^i=u/B24^i/2^k:=by
   rw[Nat.div_div_eq_div_mul,Nat.mul_comm,←Nat.div_div_eq_div_mul,hu,Nat.mul_div_cancel_left _ (Nat.pow_pos (by decide))]
  have upd: ∀v:Nat,v=w/B24^i%B24→ ∀m,m<xs.length→(zs.set (j+i) v).getD m 0=if j≤m∧m<j+(i+1)then w/B24^(m-j)%B24 else xs.getD m 0:=by
   intro v hv m hm
   rw[zcS _ _ _ _ (by omega)]
   by_cases c1:m=j+i
   · rw[if_pos c1,if_pos (by omega),hv,c1,show j+i-j=i by omega]
   · rw[if_neg c1,hg m hm]
     by_cases c2:j≤m∧m<j+i
     · rw[if_pos c2,if_pos (by omega)]
     · rw[if_neg c2,if_neg (by omega)]
  have hdl:zs.getD (j+i) 0<B24:=by rw[z0];exact Nat.mod_lt _ (by decide)
  have hdk:zs.getD (j+i) 0/2^k≤zs.getD (j+i) 0:=Nat.div_le_self _ _
  by_cases hlast:i+1<n
  · have z1 : zs.getD (j + i + 1) 0 = u / B24 ^ i / B24 % B24 := by
      rw[hg _ (by omega),if_neg (by omega),Nat.add_assoc,hx (i+1) (by omega),Nat.pow_succ,←Nat.div_div_eq_div_mul]
    have hg1:(own (j3 (zs.set (j+i) (zs.getD (j+i) 0/2^k))))[j+i]?=some (.cv (j7 ((zs.getD (j+i) 0/2^k:Nat):Int))):=by
     have:=X1 (W7 (xs:=zs.set (j+i) (zs.getD (j+i) 0/2^k)) (i:=j+i) (by simp;omega))
     rwa[z2M,z33 (by omega)]at this
    have hg2:(own (j3 (zs.set (j+i) (zs.getD (j+i) 0/2^k))))[j+i+1]?=some (.cv (j7 ((zs.getD (j+i+1) 0:Nat):Int))):=by
     have:=X1 (W7 (xs:=zs.set (j+i) (zs.getD (j+i) 0/2^k)) (i:=j+i+1) (by simp;omega))
     rwa[z2M,z13 (by omega)]at this
    have hql:zs.getD (j+i+1) 0<B24:=by rw[z1];exact Nat.mod_lt _ (by decide)
    have hpw:2^(24-k)≤16777216:=by
     have:2^(24-k)≤2^24:=Nat.pow_le_pow_right (by decide) (by omega)
     simpa using this
    have hprod:zs.getD (j+i+1) 0*2^(24-k)≤B24*16777216:=Nat.mul_le_mul (Nat.le_of_lt hql) hpw
    have ek:i64.wrap (24-(k:Int))=((24-k:Nat):Int):=by rw[w64 (by omega)];omega
    have hv:i64.wrap (((zs.getD (j+i) 0/2^k:Nat):Int)+(i64.wrap (((zs.getD (j+i+1) 0:Nat):Int)*2^min (i64.wrap (24-(k:Int))).toNat 64)).tmod 16777216)=((w/B24^i%B24:Nat):Int):=by
     rw[ek,Int.toNat_natCast,Nat.min_eq_left (by omega)]
     have e3:((zs.getD (j+i+1) 0:Nat):Int)*2^(24-k)=((zs.getD (j+i+1) 0*2^(24-k):Nat):Int):=by norm_cast
     rw[e3,w64 (n:=((zs.getD (j+i+1) 0*2^(24-k):Nat):Int)) (by simp only[B24]at hprod;omega),Int.tmod_eq_emod_of_nonneg (by omega)]
     have e4:w/B24^i%B24=zs.getD (j+i) 0/2^k+zs.getD (j+i+1) 0*2^(24-k)%B24:=by rw[wi,z8C _ k (by omega),z0,z1]
     have hl2:w/B24^i%B24<B24:=Nat.mod_lt _ (by decide)
     rw[e4]at hl2 ⊢
     clear e4 e3
     generalize zs.getD (j+i+1) 0*2^(24-k)=X at hl2 ⊢
     generalize zs.getD (j+i) 0/2^k=Y at hl2 ⊢
     simp only[B24]at hl2 ⊢
     rw[w64 (by omega)];omega
    refine zi1 j n c k i zs ((zs.getD (j+i) 0/2^k:Nat):Int) ((zs.getD (j+i+1) 0:Nat):Int) (decide_eq_true (by omega)) (by rw[ew];exact decide_eq_true (by omega)) (by omega) (by rw[e1];exact hg0) (by omega) (by omega) (by rw[e1,J4,Q9];omega) (by omega)
     (by rw[e1,hfd,Q7 (by omega)];exact hg1) (by rw[ew];omega) (by rw[e1,ew,hfd,Q7 (by omega),show j+((i+1:Nat):Int).toNat*1=j+i+1 by omega];exact hg2) (by rw[ek];omega) (by omega)
     (by rw[e1,hfd,Q7 (by omega),J4,Q9,List.length_set];omega) ?_ hn ?_
    · rw[e1,hfd,Q7 (by omega),hv,Q7 (by simp;omega)];exact J0 _
    · rw[e1,hfd,Q7 (by omega),hv,Q7 (by simp;omega),List.set_set,ew]
      exact z4K xs j n c k u w hk hu hw hx hj hl hc hR d (i+1) _ (by omega) (by simpa using hz) (upd _ rfl)
  · have hAlt : u / B24 ^ i < B24 := by
      rw[Nat.div_lt_iff_lt_mul (Nat.pow_pos (by decide))]
      have:B24*B24^i=B24^n:=by rw[show n=i+1 by omega,Nat.pow_succ,Nat.mul_comm]
      omega
    have hv:zs.getD (j+i) 0/2^k=w/B24^i%B24:=by
     rw[wi,z0,Nat.mod_eq_of_lt hAlt,Nat.mod_eq_of_lt (Nat.lt_of_le_of_lt (Nat.div_le_self _ _) hAlt)]
    refine zgT j n c k i zs (decide_eq_true (by omega)) (by rw[ew];exact decide_eq_false (by omega)) (by omega) (by rw[e1];exact hg0) (by omega) (by omega) (by rw[e1,J4,Q9];omega) ?_ hn ?_
    · rw[e1,hfd,Q7 (by omega)];exact J0 _
    · rw[e1,hfd,Q7 (by omega),ew]
      exact z4K xs j n c k u w hk hu hw hx hj hl hc hR d (i+1) _ (by omega) (by simpa using hz) (upd _ hv)
end
end Go.Fw
