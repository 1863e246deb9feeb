/- A part of the proof that the law returns true for every input: an executor for the model's code, and what functions of the program compute. -/
import Derived.Test.YtcafjpldfnegiaaDoorB11
import Derived.Test.YtcafjpldfnegiaaDoorB15
import Derived.Test.YtcafjpldfnegiaaDoorB17
import Derived.KernelRfl
open Go IntKind
namespace Go.Fw
set_option maxRecDepth 100000
theorem J9{xs:List Nat}{i:Nat}(h:i<xs.length):(j0 xs)[i]?=some (CV.lit (.int .u32 (xs.getD i 0:Nat))):=z4Y h
theorem z2s {b : Nat} {xs ys : List Nat} (hx : Dig b xs) (hb : 0 < b) {k : Nat} (hk : k < xs.length) (hl : xs.length = ys.length)
    (ht:xs.drop (k+1)=ys.drop (k+1)) (h:xs.getD k 0<ys.getD k 0):val b xs<val b ys:=by
 have e1:=z0l (b:=b) xs k (by omega)
 have e2:=z0l (b:=b) ys k (by omega)
 have e3:=z0s (b:=b) hk
 have e4:=z0s (b:=b) (xs:=ys) (i:=k) (by omega)
 have hlt:=z0u hb _ (hx.take k)
 rw[List.length_take,Nat.min_eq_left (by omega)]at hlt
 rw[e1,e2,e3,e4,ht]
 generalize val b (ys.drop (k+1))=t at*
 have:b^k*(xs.getD k 0+1+b*t)≤b^k*(ys.getD k 0+b*t):=Nat.mul_le_mul_left _ (by omega)
 rw[show xs.getD k 0+1+b*t=(xs.getD k 0+b*t)+1 by omega,Nat.mul_add,Nat.mul_one]at this
 omega
def z7C(a b:Nat)(la lb:Nat):Int:=if la≠lb then(la:Int)-lb else if a<b then-1 else if a=b then 0 else 1
theorem zb3 {R : Goal} (hn : j7 R.n [] = true) (xs ys : List Nat) (hl : xs.length = ys.length) (hlen : xs.length < 2 ^ 62) (hx : Dig B32 xs) (hy : Dig B32 ys)
    (hR:R.c (J1 (if val B32 xs<val B32 ys then-1 else if val B32 xs=val B32 ys then 0 else 1))):
    ∀k:Nat,k≤xs.length→xs.drop k=ys.drop k→
     Ok P 55 (loopHead P 55 0) ⟨J6 43 [(0,.cv (.lst xs.length (j0 xs))),(1,.cv (.lst ys.length (j0 ys))),(5,.cv (.lit (.int .i64 ((k:Int)-1))))],[]⟩ R:=by
 intro k
 induction k with
 |zero=>
  intro _ hd
  simp only[List.drop_zero]at hd
  refine zef _ _ _ _ _ (by simp) ?_
  rw[hd,if_neg (Nat.lt_irrefl _),if_pos rfl]at hR
  exact hR
 |succ k ih=>
  intro hk hd
  have e0:((k+1:Nat):Int)-1=(k:Int):=by omega
  have e1:(k:Int).toNat*1=k:=by omega
  have gx:=J9 (xs:=xs) (i:=k) (by omega)
  have gy:=J9 (xs:=ys) (i:=k) (by omega)
  rw[e0]
  by_cases h1:xs.getD k 0<ys.getD k 0
  · have:=z2s hx (by decide) (by omega) hl hd h1
    rw[if_pos this]at hR
    exact zc6 _ _ _ _ _ (by simp) (by rw[e1];simpa using h1) (by omega) (by rw[e1];exact gx) (by omega) (by rw[e1];exact gy) hR
  · by_cases h2:ys.getD k 0<xs.getD k 0
    · have:=z2s hy (by decide) (by omega) hl.symm hd.symm h2
      rw[if_neg (by omega),if_neg (by omega)]at hR
      exact zea _ _ _ _ _ (by simp) (by rw[e1];simpa using h1) (by rw[e1];simpa using h2) (by omega) (by rw[e1];exact gx) (by omega) (by rw[e1];exact gy) (by omega) (by rw[e1];exact gx) (by omega) (by rw[e1];exact gy) hR
    · refine zdJ _ _ _ _ _ (by simp) (by rw[e1];simpa using h1) (by rw[e1];simpa using h2) (by omega) (by rw[e1];exact gx) (by omega) (by rw[e1];exact gy) (by omega) (by rw[e1];exact gx) (by omega) (by rw[e1];exact gy) hn ?_
      rw[w64 (by omega)]
      refine ih (by omega) ?_
      have a1:k<xs.length:=by omega
      have a2:k<ys.length:=by omega
      rw[List.drop_eq_getElem_cons a1,List.drop_eq_getElem_cons a2,hd]
      have:xs.getD k 0=ys.getD k 0:=by omega
      simp only[List.getD_eq_getElem?_getD,List.getElem?_eq_getElem a1,List.getElem?_eq_getElem a2,Option.getD_some]at this
      rw[this]
theorem z1W(a b:Nat)(ha:(dig B32 a).length<2^62)(hb:(dig B32 b).length<2^62):PCall P 55 [X5 a,X5 b] (J1 (z7C a b (dig B32 a).length (dig B32 b).length)):=by
 have w:i64.wrap (((dig B32 a).length:Int)-(dig B32 b).length)=((dig B32 a).length:Int)-(dig B32 b).length:=w64 (by omega)
 by_cases h:(dig B32 a).length=(dig B32 b).length
 · refine zdw _ _ _ _ (by simp[h]) ?_
   rw[w64 (by omega)]
   refine zb3 (R:= .of _) rfl _ _ h ha (V7 (by decide) _) (V7 (by decide) _) ?_ _ (Nat.le_refl _) (by rw[List.drop_length,h,List.drop_length])
   rw[Z9 (by decide),Z9 (by decide),z7C,if_neg (by simpa using h)]
   rfl
 · refine(ze1 _ _ _ _ (by simp;omega)).eq ?_
   rw[w,z7C,if_pos h]
theorem z7i{a b:Nat}:z7C a b (dig B32 a).length (dig B32 b).length<0↔a<b:=by
 have h1:=J7 (by decide:2≤B32) a
 have h2:=J7 (by decide:2≤B32) b
 have key: ∀x y:Nat,(dig B32 x).length<(dig B32 y).length→x<y:=by
  intro x y h
  rcases Nat.lt_or_ge x y with h'|h'
  · exact h'
  · have:=Z0 (by decide:2≤B32) (n:=y) (k:=(dig B32 x).length) (Nat.lt_of_le_of_lt h' (J7 (by decide) x))
    omega
 unfold z7C
 split
 · rename_i h
   constructor
   · intro h3;exact key a b (by omega)
   · intro h3
     rcases Nat.lt_or_gt_of_ne h with h4|h4
     · omega
     · have:=key b a h4;omega
 · split
   · rename_i h;simp[h]
   · rename_i h
     split<;>simp[h]
theorem zaJ(V VA VB p d c c' x y B:Nat)(h1:V+c*p=VA+VB)(h2:d+B*c'=x+y+c):V+p*d+c'*(p*B)=VA+p*x+(VB+p*y):=by
 have h3:p*(d+B*c')=p*(x+y+c):=by rw[h2]
 have e1:c'*(p*B)=p*(B*c'):=by rw[Nat.mul_comm c',Nat.mul_assoc]
 have e2:c*p=p*c:=Nat.mul_comm _ _
 rw[e1]
 simp only[Nat.mul_add]at h3
 omega
theorem zb9 {R : Goal} (hn : j7 R.n [0] = true) (xs ys : List Nat) (hle : xs.length ≤ ys.length) (hlen : ys.length < 2 ^ 40) (hx : Dig B32 xs) (hy : Dig B32 ys)
    (hR:R.c (X5 (val B32 ys+val B32 xs))):
    ∀(k i:Nat) (zs:List Nat) (c:Nat),ys.length-i=k→i≤ys.length→zs.length=ys.length+1→Dig B32 zs→c≤1→
     val B32 (zs.take i)+c*B32^i=val B32 (ys.take i)+val B32 (xs.take i)→
     Ok P 54 (loopHead P 54 0) ⟨J6 54 [(0,.cv (.lst ys.length (j0 ys))),(1,.cv (.lst xs.length (j0 xs))),(5,.sl 0 0 (ys.length+1) 1),(6,.cv (.lit (.int .u32 c))),
      (21,.cv (.lst ys.length (j0 ys))),(22,.cv (.lit (.int .i64 ys.length))),(23,.cv (.lit (.int .i64 i)))],[some (own (j0 zs))]⟩ R:=by
 intro k
 induction k with
 |zero=>
  intro i zs c hk hi hz hd hc hv
  have:i=ys.length:=by omega
  subst this
  have e1:(0:Nat)+(ys.length:Int).toNat*1=ys.length:=by omega
  have hset:j4 (own (j0 zs)) ys.length [MV.cv (CV.lit (.int .u32 (c:Int)))]=own (j0 (zs.set ys.length c)):=J0 (by omega)
  have hl2:(zs.set ys.length c).length=ys.length+1:=by simp[hz]
  refine zcz _ _ _ _ _ _ _ _ (by simp) (by rw[e1,hl2]) (by rw[e1];exact hd.set (by simp only[B32];omega) _) (by rw[e1,hl2];omega) (by omega) (by rw[e1,J4,j9,hz];omega) ?_ ?_
  · rw[e1,hset];exact z0H (by rw[j9,hl2])
  · rw[e1]
    have h1:val 4294967296 (zs.set ys.length c)=val B32 ys+val B32 xs:=by
     rw[show(4294967296:Nat)=B32 from rfl]
     have:=z1h (b:=B32) (xs:=zs) (i:=ys.length) (d:=c) (by omega)
     rw[List.take_of_length_le (by omega),Nat.mul_comm]at this
     rw[this,hv,List.take_length,z04 hle]
    rw[h1];exact hR
 |succ k ih=>
  intro i zs c hk hi hz hd hc hv
  have hlt:i<ys.length:=by omega
  have e1:(i:Int).toNat*1=i:=by omega
  have e2:(0:Nat)+(i:Int).toNat*1=i:=by omega
  have e3:i64.wrap ((i:Int)+1)=((i+1:Nat):Int):=by rw[w64 (by omega)];omega
  have gy:=J9 hlt
  have dy:=hy.get (by decide) i
  have dx:=hx.get (by decide) i
  have key : ∀ y' : Nat, y' = xs.getD i 0 → y' < B32 →
      val B32 ((zs.set i ((ys.getD i 0+y'+c)%B32)).take (i+1))+(ys.getD i 0+y'+c)/B32*B32^(i+1)=val B32 (ys.take (i+1))+val B32 (xs.take (i+1)):=by
   intro y' hy' _
   rw[z1h (by omega),z01,z01,←hy',Nat.pow_succ]
   exact zaJ _ _ _ _ _ _ _ _ _ _ hv (Nat.mod_add_div _ _)
  have hcar: ∀y':Nat,y'<B32→(ys.getD i 0+y'+c)/B32≤1:=by intro y' h;simp only[B32]at*;omega
  have hdg: ∀s:Nat,s%B32<B32:=fun s=>Nat.mod_lt _ (by decide)
  by_cases hi2:i<xs.length
  · refine zc7 _ _ _ _ _ _ _ _ (by simpa using hlt) (by simpa using hi2) (by rw[e1];exact dy) (by rw[e1];exact dx) hc (by omega) (by rw[e1];exact gy) (by omega) (by rw[e1];exact J9 hi2) (by omega) (by rw[e2,J4,j9];omega) ?_ hn ?_
    · rw[e2,e1,J0 (by omega)];exact J8 _
    · rw[e2,e1,e3,J0 (by omega)]
      exact ih (i+1) _ _ (by omega) (by omega) (by simpa using hz) (hd.set (hdg _) _) (hcar _ dx) (key _ rfl dx)
  · refine zcI _ _ _ _ _ _ _ _ (by simpa using hlt) (by simpa using hi2) (by rw[e1];exact dy) (by decide) hc (by omega) (by rw[e1];exact gy) (by omega) (by rw[e2,J4,j9];omega) ?_ hn ?_
    · rw[e2,e1,J0 (by omega)];exact J8 _
    · rw[e2,e1,e3,J0 (by omega)]
      exact ih (i+1) _ _ (by omega) (by omega) (by simpa using hz) (hd.set (hdg _) _) (hcar _ (by decide)) (key 0 (z5a (by omega)).symm (by decide))
theorem zaj(a b:Nat)(ha:(dig B32 a).length<2^40)(hb:(dig B32 b).length<2^40):PCall P 54 [X5 a,X5 b] (X5 (a+b)):=by
 have main : ∀ x y : Nat, (dig B32 x).length ≤ (dig B32 y).length → (dig B32 y).length < 2 ^ 40 → ∀ R : CV → Prop, R (X5 (y + x)) →
     Ok P 54 (loopHead P 54 0) ⟨J6 54 [(0,.cv (X5 y)),(1,.cv (X5 x)),(5,.sl 0 0 ((dig B32 y).length+1) 1),(6,.cv (.lit (.int .u32 0))),
      (21,.cv (X5 y)),(22,.cv (.lit (.int .i64 (dig B32 y).length))),(23,.cv (.lit (.int .i64 0)))],[some (own (j0 (List.replicate ((dig B32 y).length+1) 0)))]⟩ (.of R):=by
  intro x y hxy hy R hR
  have:=zb9 (R:= .of R) rfl (dig B32 x) (dig B32 y) hxy hy (V7 (by decide) _) (V7 (by decide) _) (by rw[Z9 (by decide),Z9 (by decide)];exact hR) _ 0
   (List.replicate ((dig B32 y).length+1) 0) 0 rfl (Nat.zero_le _) (by simp) (Dig.replicate (by decide) _) (by omega) (by simp[val])
  exact this
 have e: ∀n:Nat,n<2^40→i64.wrap ((n:Int)+1)=((n+1:Nat):Int):=by intro n hn;rw[w64 (by omega)];omega
 by_cases h:(dig B32 a).length<(dig B32 b).length
 · refine ze9 _ _ _ _ (by simpa using h) (by rw[e _ hb];omega) (by rw[Y6];exact J8 _) ?_
   rw[Y6,e _ hb,show((((dig B32 b).length+1:Nat):Int)).toNat=(dig B32 b).length+1 by omega,Nat.mul_one]
   exact main a b (by omega) hb _ (by rw[Nat.add_comm])
 · refine ze6 _ _ _ _ (by simpa using h) (by rw[e _ ha];omega) (by rw[Y6];exact J8 _) ?_
   rw[Y6,e _ ha,show((((dig B32 a).length+1:Nat):Int)).toNat=(dig B32 a).length+1 by omega,Nat.mul_one]
   exact main b a (by omega) ha _ rfl
theorem z8A(V VA VB p d c c' x y B:Nat)(h1:V+VB=VA+c*p)(h2:d+y+c=x+B*c'):V+p*d+(VB+p*y)=VA+p*x+c'*(p*B):=by
 have h3:p*(d+y+c)=p*(x+B*c'):=by rw[h2]
 have e1:c'*(p*B)=p*(B*c'):=by rw[Nat.mul_comm c',Nat.mul_assoc]
 have e2:c*p=p*c:=Nat.mul_comm _ _
 rw[e1]
 simp only[Nat.mul_add]at h3
 omega
theorem z8e {R : Goal} (hn : j7 R.n [0] = true) (xs ys : List Nat) (hle : ys.length ≤ xs.length) (hlen : xs.length < 2 ^ 40) (hx : Dig B32 xs) (hy : Dig B32 ys) (hv0 : val B32 ys ≤ val B32 xs)
    (hR:R.c (X5 (val B32 xs-val B32 ys))):
    ∀(k i:Nat) (zs:List Nat) (c:Nat),xs.length-i=k→i≤xs.length→zs.length=xs.length→Dig B32 zs→c≤1→
     val B32 (zs.take i)+val B32 (ys.take i)=val B32 (xs.take i)+c*B32^i→
     Ok P 56 (loopHead P 56 0) ⟨J6 41 [(1,.cv (.lst ys.length (j0 ys))),(5,.sl 0 0 xs.length 1),(6,.cv (.lit (.int .u32 c))),
      (13,.cv (.lst xs.length (j0 xs))),(14,.cv (.lit (.int .i64 xs.length))),(15,.cv (.lit (.int .i64 i)))],[some (own (j0 zs))]⟩ R:=by
 intro k
 induction k with
 |zero=>
  intro i zs c hk hi hz hd hc hv
  have:i=xs.length:=by omega
  subst this
  refine zal _ _ _ _ _ _ _ _ (by simp) hz.symm hd (by omega) (z0H (by rw[j9,hz])) ?_
  have h1:val 4294967296 zs=val B32 xs-val B32 ys:=by
   rw[show(4294967296:Nat)=B32 from rfl]
   rw[List.take_of_length_le (by omega),List.take_length,z04 hle]at hv
   have hzl:=z0u (by decide:0<B32) zs hd
   rw[hz]at hzl
   have hc0:c=0∨c=1:=by omega
   rcases hc0 with rfl|rfl
   · omega
   · omega
  rw[h1];exact hR
 |succ k ih=>
  intro i zs c hk hi hz hd hc hv
  have hlt:i<xs.length:=by omega
  have e1:(i:Int).toNat*1=i:=by omega
  have e2:(0:Nat)+(i:Int).toNat*1=i:=by omega
  have e3:i64.wrap ((i:Int)+1)=((i+1:Nat):Int):=by rw[w64 (by omega)];omega
  have gx:=J9 hlt
  have dx:=hx.get (by decide) i
  have dy:=hy.get (by decide) i
  have hdg: ∀s:Nat,s%B32<B32:=fun s=>Nat.mod_lt _ (by decide)
  have key : ∀ y' : Nat, y' = ys.getD i 0 → y' < B32 →
      val B32 ((zs.set i ((xs.getD i 0+2*B32-y'-c)%B32)).take (i+1))+val B32 (ys.take (i+1))=val B32 (xs.take (i+1))+(if xs.getD i 0<y'+c then 1 else 0)*B32^(i+1):=by
   intro y' hy' hlt'
   rw[z1h (by omega),z01,z01,←hy',Nat.pow_succ]
   refine z8A _ _ _ _ _ _ _ _ _ _ hv ?_
   split
   · simp only[B32]at*;omega
   · simp only[B32]at*;omega
  have hcar: ∀q:Prop,[Decidable q]→(if q then 1 else 0)≤1:=by intro q _;split<;>omega
  by_cases hi2:i<ys.length
  · refine za8 _ _ _ _ _ _ _ _ (by simpa using hlt) (by simpa using hi2) (by rw[e1];exact dx) (by rw[e1];exact dy) hc (by omega) (by rw[e1];exact gx) (by omega) (by rw[e1];exact J9 hi2) (by omega) (by rw[e2,J4,j9];omega) ?_ hn ?_
    · rw[e2,e1,J0 (by omega)];exact J8 _
    · rw[e2,e1,e3,J0 (by omega)]
      exact ih (i+1) _ _ (by omega) (by omega) (by simpa using hz) (hd.set (hdg _) _) (hcar _) (key _ rfl dy)
  · refine zao _ _ _ _ _ _ _ _ (by simpa using hlt) (by simpa using hi2) (by rw[e1];exact dx) (by decide) hc (by omega) (by rw[e1];exact gx) (by omega) (by rw[e2,J4,j9];omega) ?_ hn ?_
    · rw[e2,e1,J0 (by omega)];exact J8 _
    · rw[e2,e1,e3,J0 (by omega)]
      exact ih (i+1) _ _ (by omega) (by omega) (by simpa using hz) (hd.set (hdg _) _) (hcar _) (key 0 (z5a (by omega)).symm (by decide))
theorem z1k{b:Nat}(hb:2≤b){m n:Nat}(h:m≤n):(dig b m).length≤(dig b n).length:=Z0 hb (Nat.lt_of_le_of_lt h (J7 hb n))
theorem z60(a b:Nat)(ha:(dig B32 a).length<2^40)(hb:b≤a):PCall P 56 [X5 a,X5 b] (X5 (a-b)):=by
 have e:(((dig B32 a).length:Int)).toNat=(dig B32 a).length:=by omega
 refine z9T _ _ _ _ (by omega) (by rw[Y6];exact J8 _) ?_
 rw[Y6,e,Nat.mul_one]
 exact z8e (R:= .of _) rfl (dig B32 a) (dig B32 b) (z1k (by decide) hb) ha (V7 (by decide) _) (V7 (by decide) _) (by rw[Z9 (by decide),Z9 (by decide)];exact hb)
  (by rw[Z9 (by decide),Z9 (by decide)];rfl) _ 0 (List.replicate (dig B32 a).length 0) 0 rfl (Nat.zero_le _) (by simp) (Dig.replicate (by decide) _) (by omega) (by simp[val])
theorem z7l {R : Goal} (hn : j7 R.n [0] = true) (xs : List Nat) (d : Nat) (hd0 : 0 < d) (hdB : d < B32) (hlen : xs.length < 2 ^ 40) (hx : Dig B32 xs)
    (hR:R.c (.tup [X5 (val B32 xs/d),z2v (val B32 xs%d)])):
    ∀(k:Nat) (zs:List Nat) (c:Nat),k≤xs.length→zs.length=xs.length→Dig B32 zs→c<d→
     val B32 (xs.drop k)=d*val B32 (zs.drop k)+c→
     Ok P 82 (loopHead P 82 0) ⟨J6 35 [(0,.cv (.lst xs.length (j0 xs))),(1,.cv (.lit (.int .u32 d))),(6,.sl 0 0 xs.length 1),(7,.cv (.lit (.int .u32 c))),(8,.cv (.lit (.int .i64 ((k:Int)-1))))],[some (own (j0 zs))]⟩ R:=by
 intro k
 induction k with
 |zero=>
  intro zs c _ hz hd hc hv
  simp only[List.drop_zero]at hv
  refine z9B _ _ _ _ _ _ _ (by simp) hz.symm hd (by omega) (z0H (by rw[j9,hz])) ?_
  have h1:val 4294967296 zs=val B32 xs/d:=by
   rw[hv,Nat.mul_add_div hd0,Nat.div_eq_of_lt hc];rfl
  have h2:c=val B32 xs%d:=by rw[hv,Nat.mul_add_mod,Nat.mod_eq_of_lt hc]
  rw[h1,h2];exact hR
 |succ k ih=>
  intro zs c hk hz hd hc hv
  have e0:((k+1:Nat):Int)-1=(k:Int):=by omega
  have e1:(k:Int).toNat*1=k:=by omega
  have e2:(0:Nat)+(k:Int).toNat*1=k:=by omega
  have gx:=J9 (xs:=xs) (i:=k) (by omega)
  have dx:=hx.get (by decide) k
  have hq:(c*B32+xs.getD k 0)/d<B32:=by
   rw[Nat.div_lt_iff_lt_mul hd0]
   have:(c+1)*B32≤d*B32:=Nat.mul_le_mul_right _ hc
   rw[Nat.add_mul,Nat.one_mul]at this
   rw[Nat.mul_comm B32 d];omega
  rw[e0]
  refine z8V _ _ _ _ _ _ _ (by simp) hc (by rw[e1];exact dx) hdB (by omega) (by rw[e1];exact gx) (by omega) (by rw[e2,J4,j9];omega) ?_ hn ?_
  · rw[e2,e1,J0 (by omega)];exact J8 _
  · rw[e2,e1,w64 (by omega),J0 (by omega)]
    refine ih _ _ (by omega) (by simpa using hz) (hd.set hq _) (Nat.mod_lt _ hd0) ?_
    rw[z5O (by omega),z3Q,hv]
    have h3:=Nat.div_add_mod (c*B32+xs.getD k 0) d
    generalize (c*4294967296+xs.getD k 0)/d=q at*
    generalize (c*4294967296+xs.getD k 0)%d=r at*
    generalize val B32 (zs.drop (k+1))=t at*
    rw[Nat.mul_add,Nat.mul_add,show B32*(d*t)=d*(B32*t) by rw[←Nat.mul_assoc,←Nat.mul_assoc,Nat.mul_comm B32 d],Nat.mul_comm B32 c]
    omega
theorem z7T(a d:Nat)(ha:(dig B32 a).length<2^40)(hd0:0<d)(hdB:d<B32):PCall P 82 [X5 a,z2v d] (.tup [X5 (a/d),z2v (a%d)]):=by
 have e:(((dig B32 a).length:Int)).toNat=(dig B32 a).length:=by omega
 refine z8l _ _ _ (by omega) (by rw[Y6];exact J8 _) ?_
 rw[Y6,e,Nat.mul_one,w64 (by omega)]
 exact z7l (R:= .of _) rfl (dig B32 a) d hd0 hdB ha (V7 (by decide) _) (by rw[Z9 (by decide)];rfl) _ (List.replicate (dig B32 a).length 0) 0 (Nat.le_refl _) (by simp) (Dig.replicate (by decide) _) hd0
  (by rw[List.drop_length,List.drop_of_length_le (by simp)];simp[val])
theorem z6m {R : Goal} (hn : j7 R.n [] = true) (xs : List Nat) (hlen : xs.length < 2 ^ 40) (hx : Dig B32 xs) (hv : val B32 xs < 18446744073709551616)
    (hR:R.c (.lit (.int .u64 (val B32 xs)))):
    ∀(k:Nat),k≤xs.length→
     Ok P 76 (loopHead P 76 0) ⟨J6 21 [(0,.cv (.lst xs.length (j0 xs))),(3,.cv (.lit (.int .u64 (val B32 (xs.drop k))))),(4,.cv (.lit (.int .i64 ((k:Int)-1))))],[]⟩ R:=by
 intro k
 induction k with
 |zero=>
  intro _
  exact z80 _ _ _ _ (by simp) hR
 |succ k ih=>
  intro hk
  have e0:((k+1:Nat):Int)-1=(k:Int):=by omega
  have e1:(k:Int).toNat*1=k:=by omega
  have gx:=J9 (xs:=xs) (i:=k) (by omega)
  have dx:=hx.get (by decide) k
  have hs:=z0l (b:=B32) xs k (by omega)
  have hdr:=z3Q (b:=B32) xs k
  have hle:val B32 (xs.drop k)≤val B32 xs:=by
   rw[hs]
   have:1*val B32 (xs.drop k)≤B32^k*val B32 (xs.drop k):=Nat.mul_le_mul_right _ (Nat.pow_pos (by decide))
   omega
  rw[e0]
  refine z7G _ _ _ _ (by simp) (by omega) (by rw[e1];exact gx) hn ?_
  rw[e1,w64 (n:=(k:Int)-1) (by omega)]
  have e2:Y2 BinOp.or u64 (u64.wrap ((val B32 (xs.drop (k+1)):Int)*4294967296)) (u64.wrap (xs.getD k 0:Nat))=(val B32 (xs.drop k):Nat):=by
   generalize val B32 (xs.drop (k+1))=t at*
   generalize xs.getD k 0=x at*
   have a1:u64.wrap ((t:Int)*4294967296)=((t*2^32:Nat):Int):=by rw[z12];simp only[B32]at*;omega
   have a2:u64.wrap (x:Int)=(x:Nat):=by rw[z12];simp only[B32]at*;omega
   rw[a1,a2,z5X (by simp only[B32]at*;omega) (by simp only[B32]at*;omega),z0R 32 (by simp only[B32]at*;omega),hdr]
   simp only[B32]at*;omega
  rw[e2]
  exact ih (by omega)
theorem z3T(a:Nat)(ha:a<18446744073709551616):PCall P 76 [X5 a] (.lit (.int .u64 (a:Int))):=by
 have hl:(dig B32 a).length≤2:=Z0 (by decide) (by simp only[B32];omega)
 refine z7y _ _ ?_
 rw[w64 (by omega)]
 have:=z6m (R:= .of (fun x=>x= .lit (.int .u64 (a:Int)))) rfl (dig B32 a) (by omega) (V7 (by decide) _) (by rw[Z9 (by decide)];exact ha) (by rw[Z9 (by decide)];rfl) _ (Nat.le_refl _)
 rw[List.drop_length]at this
 exact this
theorem zcL(n:Nat)(at':Int)(x y:Nat)(zs:List Nat)(a:x<4294967296)(c:y<4294967296)(d:zs.getD (0+at'.toNat*1) 0<4294967296)(f:x*y%4294967296<4294967296)(g:0≤1)(i:(zs.set (0+at'.toNat*1) ((zs.getD (0+at'.toNat*1) 0+x*y%4294967296+0)%4294967296)).getD (0+(i64.wrap (at'+1)).toNat*1) 0<4294967296)(j:x*y/4294967296<4294967296)(k:(zs.getD (0+at'.toNat*1) 0+x*y%4294967296+0)/4294967296≤1)(o1:(0:Int)≤at'∧at'<(n:Int))(o2:(own (j0 zs))[0+at'.toNat*1]?=some (.cv (.lit (.int .u32 ↑(zs.getD (0+at'.toNat*1) 0)))))(o5:(0:Int)≤at'∧at'<(n:Int))(o6:0+at'.toNat*1+1≤(own (j0 zs)).length)(o7:(0:Int)≤i64.wrap (at'+1)∧i64.wrap (at'+1)<(n:Int))(o8:(j4 (own (j0 zs)) (0+at'.toNat*1) [.cv (.lit (.int .u32 ↑((zs.getD (0+at'.toNat*1) 0+x*y%4294967296+0)%4294967296)))])[0+(i64.wrap (at'+1)).toNat*1]?=some (.cv (.lit (.int .u32 (↑((zs.set (0+at'.toNat*1) ((zs.getD (0+at'.toNat*1) 0+x*y%4294967296+0)%4294967296)).getD (0+(i64.wrap (at'+1)).toNat*1) 0):Int)))))(o11:(0:Int)≤i64.wrap (at'+1)∧i64.wrap (at'+1)<(n:Int))(o12:0+(i64.wrap (at'+1)).toNat*1+1≤(j4 (own (j0 zs)) (0+at'.toNat*1) [.cv (.lit (.int .u32 ↑((zs.getD (0+at'.toNat*1) 0+x*y%4294967296+0)%4294967296)))]).length)(o13:CvL (j4 (j4 (own (j0 zs)) (0+at'.toNat*1) [.cv (.lit (.int .u32 ↑((zs.getD (0+at'.toNat*1) 0+x*y%4294967296+0)%4294967296)))]) (0+(i64.wrap (at'+1)).toNat*1) [.cv (.lit (.int .u32 (↑(((zs.set (0+at'.toNat*1) ((zs.getD (0+at'.toNat*1) 0+x*y%4294967296+0)%4294967296)).getD (0+(i64.wrap (at'+1)).toNat*1) 0+x*y/4294967296+(zs.getD (0+at'.toNat*1) 0+x*y%4294967296+0)/4294967296)%4294967296):Int)))])){Q:MV→List Blk→Prop}(hR:Ok P 70 (loopHead P 70 0) ⟨J6 63 [(0,.sl 0 0 n 1),(10,.cv (.lit (.int .u32 (↑(((zs.set (0+at'.toNat*1) ((zs.getD (0+at'.toNat*1) 0+x*y%4294967296+0)%4294967296)).getD (0+(i64.wrap (at'+1)).toNat*1) 0+x*y/4294967296+(zs.getD (0+at'.toNat*1) 0+x*y%4294967296+0)/4294967296)/4294967296):Int)))),(11,.cv (.lit (.int .i64 (i64.wrap (at'+2)))))],[some (j4 (j4 (own (j0 zs)) (0+at'.toNat*1) [.cv (.lit (.int .u32 ↑((zs.getD (0+at'.toNat*1) 0+x*y%4294967296+0)%4294967296)))]) (0+(i64.wrap (at'+1)).toNat*1) [.cv (.lit (.int .u32 (↑(((zs.set (0+at'.toNat*1) ((zs.getD (0+at'.toNat*1) 0+x*y%4294967296+0)%4294967296)).getD (0+(i64.wrap (at'+1)).toNat*1) 0+x*y/4294967296+(zs.getD (0+at'.toNat*1) 0+x*y%4294967296+0)/4294967296)%4294967296):Int)))])]⟩ (.lent [some (own (j0 zs))].length Q)):z43 P 70 [some (own (j0 zs))] [.sl 0 0 n 1,.cv (.lit (.int .i64 at')),.cv (.lit (.int .u32 (x:Int))),.cv (.lit (.int .u32 (y:Int)))] Q:=
 zbM (keep:=[0,10,11]) (σ:=[0]) (ors:=[(2,.r (.tup [.lit (.int .u32 ↑(x*y/4294967296)),.lit (.int .u32 ↑(x*y%4294967296))])),(14,.e (.cv (.lit (.int .u32 ↑(zs.getD (0+at'.toNat*1) 0))))),(16,.r (.tup [.lit (.int .u32 ↑((zs.getD (0+at'.toNat*1) 0+x*y%4294967296+0)%4294967296)),.lit (.int .u32 ↑((zs.getD (0+at'.toNat*1) 0+x*y%4294967296+0)/4294967296))])),(30,.e (.cv (.lit (.int .u32 (↑((zs.set (0+at'.toNat*1) ((zs.getD (0+at'.toNat*1) 0+x*y%4294967296+0)%4294967296)).getD (0+(i64.wrap (at'+1)).toNat*1) 0):Int))))),(33,.r (.tup [.lit (.int .u32 (↑(((zs.set (0+at'.toNat*1) ((zs.getD (0+at'.toNat*1) 0+x*y%4294967296+0)%4294967296)).getD (0+(i64.wrap (at'+1)).toNat*1) 0+x*y/4294967296+(zs.getD (0+at'.toNat*1) 0+x*y%4294967296+0)/4294967296)%4294967296):Int)),.lit (.int .u32 (↑(((zs.set (0+at'.toNat*1) ((zs.getD (0+at'.toNat*1) 0+x*y%4294967296+0)%4294967296)).getD (0+(i64.wrap (at'+1)).toNat*1) 0+x*y/4294967296+(zs.getD (0+at'.toNat*1) 0+x*y%4294967296+0)/4294967296)/4294967296):Int))])),(43,.stop)]) (by kernel_rfl) rfl (.cons (z7w x y a c) (.cons o1 (.cons o2 (.cons (eqn 1) (.cons (z0f (zs.getD (0+at'.toNat*1) 0) (x*y%4294967296) 0 d f g) (.cons o5 (.cons o6 (.cons o7 (.cons o8 (.cons (eqn 1) (.cons (z0f ((zs.set (0+at'.toNat*1) ((zs.getD (0+at'.toNat*1) 0+x*y%4294967296+0)%4294967296)).getD (0+(i64.wrap (at'+1)).toNat*1) 0) (x*y/4294967296) ((zs.getD (0+at'.toNat*1) 0+x*y%4294967296+0)/4294967296) i j k) (.cons o11 (.cons o12 (.cons o13 .nil)))))))))))))) rfl hR
theorem zd7(n m o i:Nat)(xs ys zs:List Nat)(h1:decide ((i:Int)<n)=true)(o1:(0:Int)≤i∧(i:Int)<n)(o2:(j0 xs)[(i:Int).toNat*1]?=some (.lit (.int .u32 ↑(xs.getD ((i:Int).toNat*1) 0))))(o4:CvL (own (j0 zs))){R:Goal}(hn:j7 R.n [0]=true)(hR:Ok P 59 (loopHead P 59 1) ⟨J6 45 [(1,.cv (.lst m (j0 ys))),(5,.sl 0 0 o 1),(6,MV.fn 70 [.sl 0 0 o 1] []),(7,.cv (.lit (.int .i64 (i:Int)))),(8,.cv (.lit (.int .u32 ↑(xs.getD ((i:Int).toNat*1) 0)))),(20,.cv (.lst n (j0 xs))),(21,.cv (.lit (.int .i64 (n:Int)))),(22,.cv (.lit (.int .i64 (i:Int)))),(27,.cv (.lst m (j0 ys))),(28,.cv (.lit (.int .i64 (m:Int)))),(29,.cv (.lit (.int .i64 0)))],[some (own (j0 zs))]⟩ R):Ok P 59 (loopHead P 59 0) ⟨J6 45 [(1,.cv (.lst m (j0 ys))),(5,.sl 0 0 o 1),(6,MV.fn 70 [.sl 0 0 o 1] []),(20,.cv (.lst n (j0 xs))),(21,.cv (.lit (.int .i64 (n:Int)))),(22,.cv (.lit (.int .i64 (i:Int))))],[some (own (j0 zs))]⟩ R:=
 z39 (keep:=[1,5,6,7,8,20,21,22,27,28,29]) (σ:=[0]) (.b 2 h1 (.c o1 (.l 5 o2 (.c (eqn 1) (.o 11 .stop .nil))))) (by kernel_rfl) rfl hn hR (.cons o4 .nil)
theorem zcx(n m o i:Nat)(xs ys zs:List Nat)(h1:decide ((i:Int)<n)=false)(a:o=zs.length)(d:Dig 4294967296 zs)(e:zs.length<2^62)(o2:List.take (o*1) (List.drop 0 (own (j0 zs)))=List.map MV.cv (j0 zs)){R:Goal}(hR:R.c (.lst (dig 4294967296 (val 4294967296 zs)).length (j0 (dig 4294967296 (val 4294967296 zs))))):Ok P 59 (loopHead P 59 0) ⟨J6 45 [(1,.cv (.lst m (j0 ys))),(5,.sl 0 0 o 1),(6,MV.fn 70 [.sl 0 0 o 1] []),(20,.cv (.lst n (j0 xs))),(21,.cv (.lit (.int .i64 (n:Int)))),(22,.cv (.lit (.int .i64 (i:Int))))],[some (own (j0 zs))]⟩ R:=
 okT (.b 2 h1 (.rs 4 [j0 zs] (X6 o zs a d e) (.c o2 .nil))) (by kernel_rfl) hR
theorem ze3(n c i:Nat)(zs:List Nat)(h1:((c:Int) != 0)=true)(a:zs.getD (0+(i:Int).toNat*1) 0<4294967296)(d:0<4294967296)(f:c≤1)(o1:(0:Int)≤i∧(i:Int)<n)(o2:(own (j0 zs))[0+(i:Int).toNat*1]?=some (.cv (.lit (.int .u32 ↑(zs.getD (0+(i:Int).toNat*1) 0)))))(o5:(0:Int)≤i∧(i:Int)<n)(o6:0+(i:Int).toNat*1+1≤(own (j0 zs)).length)(o7:CvL (j4 (own (j0 zs)) (0+(i:Int).toNat*1) [.cv (.lit (.int .u32 (↑((zs.getD (0+(i:Int).toNat*1) 0+0+c)%4294967296):Int)))])){R:Goal}(hn:j7 R.n [0]=true)(hR:Ok P 70 (loopHead P 70 0) ⟨J6 63 [(0,.sl 0 0 n 1),(10,.cv (.lit (.int .u32 (↑((zs.getD (0+(i:Int).toNat*1) 0+0+c)/4294967296):Int)))),(11,.cv (.lit (.int .i64 (i64.wrap ((i:Int)+1)))))],[some (j4 (own (j0 zs)) (0+(i:Int).toNat*1) [.cv (.lit (.int .u32 (↑((zs.getD (0+(i:Int).toNat*1) 0+0+c)%4294967296):Int)))])]⟩ R):Ok P 70 (loopHead P 70 0) ⟨J6 63 [(0,.sl 0 0 n 1),(10,.cv (.lit (.int .u32 (c:Int)))),(11,.cv (.lit (.int .i64 (i:Int))))],[some (own (j0 zs))]⟩ R:=
 z4j (m:=1) (keep:=[0,10,11]) (σ:=[0]) (.b 3 h1 (.c o1 (.e 9 o2 (.c (eqn 1) (.r 11 (z0f (zs.getD (0+(i:Int).toNat*1) 0) 0 c a d f) (.c o5 (.c o6 (.o 21 .stop .nil)))))))) (by kernel_rfl) rfl hn hR (.cons o7 .nil)
theorem z9K(n c i:Nat)(zs:List Nat)(h1:((c:Int) != 0)=false)(o2:BlksCv [some (own (j0 zs))]){R:Goal}(hn:R.Lent 1)(hR:R.m (.tup []) [some (own (j0 zs))]):Ok P 70 (loopHead P 70 0) ⟨J6 63 [(0,.sl 0 0 n 1),(10,.cv (.lit (.int .u32 (c:Int)))),(11,.cv (.lit (.int .i64 (i:Int))))],[some (own (j0 zs))]⟩ R:=
 zgG (ors:=[(3,.b false),(4,.a)]) (by kernel_rfl) (.cons h1 (.cons (lq 1 1) (.cons o2 .nil))) hn hR
theorem z4P{b:Nat}: ∀(xs:List Nat) (i d:Nat),i<xs.length→val b (xs.set i d)+b^i*xs.getD i 0=val b xs+b^i*d
 | [],i,d,h=>by simp at h
 |x::xs,0,d,_=>by simp[val];omega
 |x::xs,i+1,d,h=>by
  have ih:=z4P (b:=b) xs i d (by simpa using h)
  simp only[List.set_cons_succ,val,List.getD_cons_succ,Nat.pow_succ]
  have h2:b*(val b (xs.set i d)+b^i*xs.getD i 0)=b*(val b xs+b^i*d):=by rw[ih]
  simp only[Nat.mul_add]at h2
  have e1:b^i*b*xs.getD i 0=b*(b^i*xs.getD i 0):=by rw[Nat.mul_comm (b^i),Nat.mul_assoc]
  have e2:b^i*b*d=b*(b^i*d):=by rw[Nat.mul_comm (b^i),Nat.mul_assoc]
  rw[e1,e2];omega
theorem z0V{b:Nat}(hb:0<b): ∀(xs:List Nat),Dig b xs→Q7 b xs.length (val b xs)=xs
 | [],_=>rfl
 |x::xs,h=>by
  have hx:=h x (by simp)
  simp only[List.length_cons,Q7,val]
  rw[Nat.add_mul_mod_self_left,Nat.mod_eq_of_lt hx,Nat.add_mul_div_left _ _ hb,Nat.div_eq_of_lt hx,Nat.zero_add,z0V hb xs (fun y hy=>h y (by simp[hy]))]
theorem zbs {R : Goal} (hn : R.Lent 1) (n T : Nat) (hn62 : n < 2 ^ 62) (hT : T < B32 ^ n) (hR : R.m (.tup []) [some (own (j0 (Q7 B32 n T)))]) :
    ∀(k i c:Nat) (zs:List Nat),n-i=k→i≤n→zs.length=n→Dig B32 zs→c≤1→val B32 zs+c*B32^i=T→
     Ok P 70 (loopHead P 70 0) ⟨J6 63 [(0,.sl 0 0 n 1),(10,.cv (.lit (.int .u32 c))),(11,.cv (.lit (.int .i64 i)))],[some (own (j0 zs))]⟩ R:=by
 intro k
 induction k with
 |zero=>
  intro i c zs hk hi hz hd hc hv
  have hi2:i=n:=by omega
  subst hi2
  have hc0:c=0:=by
   rcases(by omega:c=0∨c=1)with h|h
   · exact h
   · subst h;omega
  subst hc0
  refine z9K _ _ _ _ (by simp) (BlksCv.one (J8 _)) hn ?_
  have:zs=Q7 B32 i T:=by rw[←z0V (by decide:0<B32) zs hd,hz,←hv];simp
  rw[this];exact hR
 |succ k ih=>
  intro i c zs hk hi hz hd hc hv
  by_cases hc0:c=0
  · subst hc0
    refine z9K _ _ _ _ (by simp) (BlksCv.one (J8 _)) hn ?_
    have:zs=Q7 B32 n T:=by rw[←z0V (by decide:0<B32) zs hd,hz,←hv];simp
    rw[this];exact hR
  · have hlt:i<n:=by omega
    have e2:(0:Nat)+(i:Int).toNat*1=i:=by omega
    have e3:i64.wrap ((i:Int)+1)=((i+1:Nat):Int):=by rw[w64 (by omega)];omega
    have dz:=hd.get (by decide) i
    refine ze3 _ _ _ _ (by simpa using hc0) (by rw[e2];exact dz) (by decide) hc (by omega) (by rw[e2];exact U1 (J9 (by omega))) (by omega) (by rw[e2,J4,j9];omega) (by rw[e2,J0 (by omega)];exact J8 _) (by rw[hn.n];rfl) ?_
    rw[e2,e3,J0 (by omega)]
    refine ih (i+1) _ _ (by omega) (by omega) (by simpa using hz) (hd.set (Nat.mod_lt _ (by decide)) _) (by simp only[B32]at*;omega) ?_
    have hs:=z4P (b:=B32) zs i ((zs.getD i 0+0+c)%B32) (by omega)
    have hm:=Nat.mod_add_div (zs.getD i 0+0+c) B32
    rw[Nat.pow_succ]
    generalize (zs.getD i 0+0+c)%B32=d at*
    generalize (zs.getD i 0+0+c)/B32=c' at*
    generalize zs.getD i 0=z at*
    generalize B32^i=p at*
    have h1:p*(d+B32*c')=p*(z+0+c):=by rw[hm]
    rw[show c'*(p*B32)=p*(B32*c') by rw[Nat.mul_comm c',Nat.mul_assoc]]
    rw[show c*p=p*c from Nat.mul_comm _ _]at hv
    simp only[Nat.mul_add,Nat.add_zero]at h1
    omega
theorem zbu (n V at' x y : Nat) (hn : n < 2 ^ 40) (hat : at' + 1 < n) (hV : V + x * y * B32 ^ at' < B32 ^ n) (hx : x < B32) (hy : y < B32) :
    z2j P 70 [some (own (j0 (Q7 B32 n V)))] [.sl 0 0 n 1,.cv (J1 at'),.cv (z2v x),.cv (z2v y)] (.tup []) [some (own (j0 (Q7 B32 n (V+x*y*B32^at'))))]:=by
 have hV0:val B32 (Q7 B32 n V)=V:=by rw[z0w,Nat.mod_eq_of_lt (by omega)]
 have hl:=j5 B32 n V
 have hd:=z0p (by decide:0<B32) n V
 generalize Q7 B32 n V=zs at*
 have e1:(0:Nat)+(at':Int).toNat*1=at':=by omega
 have e2:i64.wrap ((at':Int)+1)=((at'+1:Nat):Int):=by rw[w64 (by omega)];omega
 have e3:(0:Nat)+((at'+1:Nat):Int).toNat*1=at'+1:=by omega
 have e4:i64.wrap ((at':Int)+2)=((at'+2:Nat):Int):=by rw[w64 (by omega)];omega
 have da:=hd.get (by decide) at'
 have db:=hd.get (by decide) (at'+1)
 have hlo:x*y%B32<B32:=Nat.mod_lt _ (by decide)
 have hhi:x*y/B32<B32:=by
  have:x*y≤4294967295*4294967295:=Nat.mul_le_mul (by simp only[B32]at hx;omega) (by simp only[B32]at hy;omega)
  simp only[B32];omega
 have hne:(zs.set at' ((zs.getD at' 0+x*y%B32+0)%B32)).getD (at'+1) 0=zs.getD (at'+1) 0:=z1U (by omega)
 have s1:j4 (own (j0 zs)) at' [MV.cv (CV.lit (.int .u32 (((zs.getD at' 0+x*y%B32+0)%B32:Nat):Int)))]=own (j0 (zs.set at' ((zs.getD at' 0+x*y%B32+0)%B32))):=J0 (by omega)
 have hc1:(zs.getD at' 0+x*y%B32+0)/B32≤1:=by simp only[B32]at*;omega
 have hl1:(zs.set at' ((zs.getD at' 0+x*y%B32+0)%B32)).length=n:=by simp[hl]
 refine zcL n at' x y zs hx hy (by rw[e1];exact da) hlo (by omega) ?_ hhi ?_ (by omega) (by rw[e1];exact U1 (J9 (by omega))) (by omega) (by rw[e1,J4,j9];omega) (by rw[e2];omega) ?_ (by rw[e2];omega) ?_ ?_ ?_
 · rw[e2,e3,e1];exact hne ▸ db
 · rw[e1];exact hc1
 · rw[e2,e3,e1];exact s1 ▸ U1 (J9 (by omega))
 · rw[e2,e3,e1];rw[show(4294967296:Nat)=B32 from rfl,s1,J4,j9];omega
 · rw[e2,e3,e1,show(4294967296:Nat)=B32 from rfl,s1,J0 (by omega)];exact J8 _
 · rw[e2,e3,e1,e4,show(4294967296:Nat)=B32 from rfl,s1,J0 (by omega),hne]
   refine zbs (R:= .lent 1 (fun a b=>a= .tup []∧b=[some (own (j0 (Q7 B32 n (V+x*y*B32^at'))))])) ⟨rfl,rfl⟩ n (V+x*y*B32^at') (by omega) hV (show _∧_ from⟨rfl,rfl⟩) _ (at'+2) _ _ rfl (by omega) (by simp[hl]) ((hd.set (Nat.mod_lt _ (by decide)) _).set (Nat.mod_lt _ (by decide)) _) (by simp only[B32]at*;omega) ?_
   have h1:=z4P (b:=B32) zs at' ((zs.getD at' 0+x*y%B32+0)%B32) (by omega)
   have h2:=z4P (b:=B32) (zs.set at' ((zs.getD at' 0+x*y%B32+0)%B32)) (at'+1) ((zs.getD (at'+1) 0+x*y/B32+(zs.getD at' 0+x*y%B32+0)/B32)%B32) (by omega)
   rw[hne]at h2
   have m0:=Nat.mod_add_div (x*y) B32
   have m1:=Nat.mod_add_div (zs.getD at' 0+x*y%B32+0) B32
   have m2:=Nat.mod_add_div (zs.getD (at'+1) 0+x*y/B32+(zs.getD at' 0+x*y%B32+0)/B32) B32
   generalize (zs.getD at' 0+x*y%B32+0)/B32=c0 at*
   generalize (zs.getD (at'+1) 0+x*y/B32+c0)/B32=c1 at*
   generalize (zs.getD (at'+1) 0+x*y/B32+c0)%B32=d1 at*
   generalize (zs.getD at' 0+x*y%B32+0)%B32=d0 at*
   generalize x*y%B32=lo at*
   generalize x*y/B32=hi at*
   generalize x*y=xy at*
   generalize val B32 ((zs.set at' d0).set (at'+1) d1)=V2 at*
   generalize val B32 (zs.set at' d0)=V1 at*
   generalize zs.getD at' 0=z0 at*
   generalize zs.getD (at'+1) 0=z1 at*
   rw[hV0]at h1
   subst m0
   rw[show at'+2=at'+1+1 from rfl,Nat.pow_succ B32 (at'+1)]
   rw[Nat.pow_succ]at h2 ⊢
   generalize B32^at'=p at*
   have q1:p*(d0+B32*c0)=p*(z0+lo+0):=by rw[m1]
   have q2:p*B32*(d1+B32*c1)=p*B32*(z1+hi+c0):=by rw[m2]
   rw[show c1*(p*B32*B32)=p*B32*(B32*c1) by rw[Nat.mul_comm c1,Nat.mul_assoc (p*B32)],show(lo+B32*hi)*p=p*lo+p*B32*hi by rw[Nat.add_mul,Nat.mul_comm lo,Nat.mul_comm (B32*hi),←Nat.mul_assoc]]
   simp only[Nat.mul_add,Nat.add_zero]at q1 q2
   have q3:p*(B32*c0)=p*B32*c0:=by rw[Nat.mul_assoc]
   rw[q3]at q1
   omega
theorem z8y (n V : Nat) (a : Int) (x y : Nat) (ha : 0 ≤ a) (hn : n < 2 ^ 40) (hat : a.toNat + 1 < n) (hV : V + x * y * B32 ^ a.toNat < B32 ^ n) (hx : x < B32) (hy : y < B32) :
    z2j P 70 [some (own (j0 (Q7 B32 n V)))] [.sl 0 0 n 1,.cv (J1 a),.cv (z2v x),.cv (z2v y)] (.tup []) [some (own (j0 (Q7 B32 n (V+x*y*B32^a.toNat))))]:=by
 have:=zbu n V a.toNat x y hn hat hV hx hy
 rw[show((a.toNat:Nat):Int)=a by omega]at this
 exact this
end Go.Fw
