/- A part of the proof that the law returns true for every input: an executor for the model's code, and what functions of the program compute. -/
import Derived.Test.YtcafjpldfnegiaaGreatDoorB11
import Derived.Test.YtcafjpldfnegiaaGreatDoorB15
import Derived.Test.YtcafjpldfnegiaaGreatDoorB18
import Derived.Test.YtcafjpldfnegiaaGreatDoorB19
import Derived.KernelRfl
open Go IntKind
namespace Go.Fw
set_option maxRecDepth 100000
theorem z8f(V VA VB p d c c' x y B:Nat)(h1:V+VB=VA+c*p)(h2:d+y+c=x+B*c'):V+p*d+(VB+p*y)=VA+p*x+c'*(p*B):=by
 have h3:p*(d+y+c)=p*(x+B*c'):=by rw[h2]
 have e1:c'*(p*B)=p*(B*c'):=by rw[Nat.mul_comm c',Nat.mul_assoc]
 have e2:c*p=p*c:=Nat.mul_comm _ _
 rw[e1]
 simp only[Nat.mul_add]at h3
 omega
theorem zdf {R : Goal} (hn : j7 R.n [0] = true) (xs ys : List Nat) (hle : ys.length ≤ xs.length) (hlen : xs.length < 2 ^ 40) (hx : Dig B32 xs) (hy : Dig B32 ys) (hv0 : val B32 ys ≤ val B32 xs)
    (hR:R.c (z0c (val B32 xs-val B32 ys))):
    ∀(k i:Nat) (zs:List Nat) (c:Nat),xs.length-i=k→i≤xs.length→zs.length=xs.length→Dig B32 zs→c≤1→
     val B32 (zs.take i)+val B32 (ys.take i)=val B32 (xs.take i)+c*B32^i→
     Ok P 242 (loopHead P 242 0) ⟨J1 41 [(1,.cv (.lst ys.length (j8 ys))),(5,.sl 0 0 xs.length 1),(6,.cv (.lit (.int .u32 c))),
      (13,.cv (.lst xs.length (j8 xs))),(14,.cv (.lit (.int .i64 xs.length))),(15,.cv (.lit (.int .i64 i)))],[some (own (j8 zs))]⟩ R:=by
 intro k
 induction k with
 |zero=>
  intro i zs c hk hi hz hd hc hv
  have:i=xs.length:=by omega
  subst this
  refine zfD _ _ _ _ _ _ _ _ (by simp) hz.symm hd (by omega) (z17 (by rw[Q7,hz])) ?_
  have h1:val 4294967296 zs=val B32 xs-val B32 ys:=by
   rw[show(4294967296:Nat)=B32 from rfl]
   rw[List.take_of_length_le (by omega),List.take_length,z0o hle]at hv
   have hzl:=z0I (by decide:0<B32) zs hd
   rw[hz]at hzl
   have hc0:c=0∨c=1:=by omega
   rcases hc0 with rfl|rfl
   · omega
   · omega
  rw[h1];exact hR
 |succ k ih=>
  intro i zs c hk hi hz hd hc hv
  have hlt:i<xs.length:=by omega
  have e1:(i:Int).toNat*1=i:=by omega
  have e2:(0:Nat)+(i:Int).toNat*1=i:=by omega
  have e3:i64.wrap ((i:Int)+1)=((i+1:Nat):Int):=by rw[w64 (by omega)];omega
  have gx:=Y7 hlt
  have dx:=hx.get (by decide) i
  have dy:=hy.get (by decide) i
  have hdg: ∀s:Nat,s%B32<B32:=fun s=>Nat.mod_lt _ (by decide)
  have key : ∀ y' : Nat, y' = ys.getD i 0 → y' < B32 →
      val B32 ((zs.set i ((xs.getD i 0+2*B32-y'-c)%B32)).take (i+1))+val B32 (ys.take (i+1))=val B32 (xs.take (i+1))+(if xs.getD i 0<y'+c then 1 else 0)*B32^(i+1):=by
   intro y' hy' hlt'
   rw[z06 (by omega),Y0,Y0,←hy',Nat.pow_succ]
   refine z8f _ _ _ _ _ _ _ _ _ _ hv ?_
   split
   · simp only[B32]at*;omega
   · simp only[B32]at*;omega
  have hcar: ∀q:Prop,[Decidable q]→(if q then 1 else 0)≤1:=by intro q _;split<;>omega
  by_cases hi2:i<ys.length
  · refine zfI _ _ _ _ _ _ _ _ (by simpa using hlt) (by simpa using hi2) (by rw[e1];exact dx) (by rw[e1];exact dy) hc (by omega) (by rw[e1];exact gx) (by omega) (by rw[e1];exact Y7 hi2) (by omega) (by rw[e2,J4,Q7];omega) ?_ hn ?_
    · rw[e2,e1,Q6 (by omega)];exact J0 _
    · rw[e2,e1,e3,Q6 (by omega)]
      exact ih (i+1) _ _ (by omega) (by omega) (by simpa using hz) (hd.set (hdg _) _) (hcar _) (key _ rfl dy)
  · refine zgK _ _ _ _ _ _ _ _ (by simpa using hlt) (by simpa using hi2) (by rw[e1];exact dx) (by decide) hc (by omega) (by rw[e1];exact gx) (by omega) (by rw[e2,J4,Q7];omega) ?_ hn ?_
    · rw[e2,e1,Q6 (by omega)];exact J0 _
    · rw[e2,e1,e3,Q6 (by omega)]
      exact ih (i+1) _ _ (by omega) (by omega) (by simpa using hz) (hd.set (hdg _) _) (hcar _) (key 0 (z3C (by omega)).symm (by decide))
theorem Z7{b:Nat}(hb:2≤b){m n:Nat}(h:m≤n):(dig b m).length≤(dig b n).length:=Q1 hb (Nat.lt_of_le_of_lt h (J8 hb n))
theorem z9e(a b:Nat)(ha:(dig B32 a).length<2^40)(hb:b≤a):PCall P 242 [z0c a,z0c b] (z0c (a-b)):=by
 have e:(((dig B32 a).length:Int)).toNat=(dig B32 a).length:=by omega
 refine zgV _ _ _ _ (by omega) (by rw[U4];exact J0 _) ?_
 rw[U4,e,Nat.mul_one]
 exact zdf (R:= .of _) rfl (dig B32 a) (dig B32 b) (Z7 (by decide) hb) ha (Y8 (by decide) _) (Y8 (by decide) _) (by rw[Q8 (by decide),Q8 (by decide)];exact hb)
  (by rw[Q8 (by decide),Q8 (by decide)];rfl) _ 0 (List.replicate (dig B32 a).length 0) 0 rfl (Nat.zero_le _) (by simp) (Dig.replicate (by decide) _) (by omega) (by simp[val])
theorem zc6 {R : Goal} (hn : j7 R.n [0] = true) (xs : List Nat) (d : Nat) (hd0 : 0 < d) (hdB : d < B32) (hlen : xs.length < 2 ^ 40) (hx : Dig B32 xs)
    (hR:R.c (.tup [z0c (val B32 xs/d),z4p (val B32 xs%d)])):
    ∀(k:Nat) (zs:List Nat) (c:Nat),k≤xs.length→zs.length=xs.length→Dig B32 zs→c<d→
     val B32 (xs.drop k)=d*val B32 (zs.drop k)+c→
     Ok P 261 (loopHead P 261 0) ⟨J1 35 [(0,.cv (.lst xs.length (j8 xs))),(1,.cv (.lit (.int .u32 d))),(6,.sl 0 0 xs.length 1),(7,.cv (.lit (.int .u32 c))),(8,.cv (.lit (.int .i64 ((k:Int)-1))))],[some (own (j8 zs))]⟩ R:=by
 intro k
 induction k with
 |zero=>
  intro zs c _ hz hd hc hv
  simp only[List.drop_zero]at hv
  refine zdX _ _ _ _ _ _ _ (by simp) hz.symm hd (by omega) (z17 (by rw[Q7,hz])) ?_
  have h1:val 4294967296 zs=val B32 xs/d:=by
   rw[hv,Nat.mul_add_div hd0,Nat.div_eq_of_lt hc];rfl
  have h2:c=val B32 xs%d:=by rw[hv,Nat.mul_add_mod,Nat.mod_eq_of_lt hc]
  rw[h1,h2];exact hR
 |succ k ih=>
  intro zs c hk hz hd hc hv
  have e0:((k+1:Nat):Int)-1=(k:Int):=by omega
  have e1:(k:Int).toNat*1=k:=by omega
  have e2:(0:Nat)+(k:Int).toNat*1=k:=by omega
  have gx:=Y7 (xs:=xs) (i:=k) (by omega)
  have dx:=hx.get (by decide) k
  have hq:(c*B32+xs.getD k 0)/d<B32:=by
   rw[Nat.div_lt_iff_lt_mul hd0]
   have:(c+1)*B32≤d*B32:=Nat.mul_le_mul_right _ hc
   rw[Nat.add_mul,Nat.one_mul]at this
   rw[Nat.mul_comm B32 d];omega
  rw[e0]
  refine zcK _ _ _ _ _ _ _ (by simp) hc (by rw[e1];exact dx) hdB (by omega) (by rw[e1];exact gx) (by omega) (by rw[e2,J4,Q7];omega) ?_ hn ?_
  · rw[e2,e1,Q6 (by omega)];exact J0 _
  · rw[e2,e1,w64 (by omega),Q6 (by omega)]
    refine ih _ _ (by omega) (by simpa using hz) (hd.set hq _) (Nat.mod_lt _ hd0) ?_
    rw[z5a (by omega),z42,hv]
    have h3:=Nat.div_add_mod (c*B32+xs.getD k 0) d
    generalize (c*4294967296+xs.getD k 0)/d=q at*
    generalize (c*4294967296+xs.getD k 0)%d=r at*
    generalize val B32 (zs.drop (k+1))=t at*
    rw[Nat.mul_add,Nat.mul_add,show B32*(d*t)=d*(B32*t) by rw[←Nat.mul_assoc,←Nat.mul_assoc,Nat.mul_comm B32 d],Nat.mul_comm B32 c]
    omega
theorem z4O(a d:Nat)(ha:(dig B32 a).length<2^40)(hd0:0<d)(hdB:d<B32):PCall P 261 [z0c a,z4p d] (.tup [z0c (a/d),z4p (a%d)]):=by
 have e:(((dig B32 a).length:Int)).toNat=(dig B32 a).length:=by omega
 refine zdz _ _ _ (by omega) (by rw[U4];exact J0 _) ?_
 rw[U4,e,Nat.mul_one,w64 (by omega)]
 exact zc6 (R:= .of _) rfl (dig B32 a) d hd0 hdB ha (Y8 (by decide) _) (by rw[Q8 (by decide)];rfl) _ (List.replicate (dig B32 a).length 0) 0 (Nat.le_refl _) (by simp) (Dig.replicate (by decide) _) hd0
  (by rw[List.drop_length,List.drop_of_length_le (by simp)];simp[val])
theorem za3 {R : Goal} (hn : j7 R.n [] = true) (xs : List Nat) (hlen : xs.length < 2 ^ 40) (hx : Dig B32 xs) (hv : val B32 xs < 18446744073709551616)
    (hR:R.c (.lit (.int .u64 (val B32 xs)))):
    ∀(k:Nat),k≤xs.length→
     Ok P 259 (loopHead P 259 0) ⟨J1 21 [(0,.cv (.lst xs.length (j8 xs))),(3,.cv (.lit (.int .u64 (val B32 (xs.drop k))))),(4,.cv (.lit (.int .i64 ((k:Int)-1))))],[]⟩ R:=by
 intro k
 induction k with
 |zero=>
  intro _
  exact zbC _ _ _ _ (by simp) hR
 |succ k ih=>
  intro hk
  have e0:((k+1:Nat):Int)-1=(k:Int):=by omega
  have e1:(k:Int).toNat*1=k:=by omega
  have gx:=Y7 (xs:=xs) (i:=k) (by omega)
  have dx:=hx.get (by decide) k
  have hs:=z15 (b:=B32) xs k (by omega)
  have hdr:=z42 (b:=B32) xs k
  have hle:val B32 (xs.drop k)≤val B32 xs:=by
   rw[hs]
   have:1*val B32 (xs.drop k)≤B32^k*val B32 (xs.drop k):=Nat.mul_le_mul_right _ (Nat.pow_pos (by decide))
   omega
  rw[e0]
  refine zch _ _ _ _ (by simp) (by omega) (by rw[e1];exact gx) hn ?_
  rw[e1,w64 (n:=(k:Int)-1) (by omega)]
  have e2:X9 BinOp.or u64 (u64.wrap ((val B32 (xs.drop (k+1)):Int)*4294967296)) (u64.wrap (xs.getD k 0:Nat))=(val B32 (xs.drop k):Nat):=by
   generalize val B32 (xs.drop (k+1))=t at*
   generalize xs.getD k 0=x at*
   have a1:u64.wrap ((t:Int)*4294967296)=((t*2^32:Nat):Int):=by rw[z1Y];simp only[B32]at*;omega
   have a2:u64.wrap (x:Int)=(x:Nat):=by rw[z1Y];simp only[B32]at*;omega
   rw[a1,a2,z8P (by simp only[B32]at*;omega) (by simp only[B32]at*;omega),z2p 32 (by simp only[B32]at*;omega),hdr]
   simp only[B32]at*;omega
  rw[e2]
  exact ih (by omega)
theorem z6l(a:Nat)(ha:a<18446744073709551616):PCall P 259 [z0c a] (.lit (.int .u64 (a:Int))):=by
 have hl:(dig B32 a).length≤2:=Q1 (by decide) (by simp only[B32];omega)
 refine zcb _ _ ?_
 rw[w64 (by omega)]
 have:=za3 (R:= .of (fun x=>x= .lit (.int .u64 (a:Int)))) rfl (dig B32 a) (by omega) (Y8 (by decide) _) (by rw[Q8 (by decide)];exact ha) (by rw[Q8 (by decide)];rfl) _ (Nat.le_refl _)
 rw[List.drop_length]at this
 exact this
theorem zl8(n:Nat)(at':Int)(x y:Nat)(zs:List Nat)(a:x<4294967296)(c:y<4294967296)(d:zs.getD (0+at'.toNat*1) 0<4294967296)(f:x*y%4294967296<4294967296)(g:0≤1)(i:(zs.set (0+at'.toNat*1) ((zs.getD (0+at'.toNat*1) 0+x*y%4294967296+0)%4294967296)).getD (0+(i64.wrap (at'+1)).toNat*1) 0<4294967296)(j:x*y/4294967296<4294967296)(k:(zs.getD (0+at'.toNat*1) 0+x*y%4294967296+0)/4294967296≤1)(o1:(0:Int)≤at'∧at'<(n:Int))(o2:(own (j8 zs))[0+at'.toNat*1]?=some (.cv (.lit (.int .u32 ↑(zs.getD (0+at'.toNat*1) 0)))))(o5:(0:Int)≤at'∧at'<(n:Int))(o6:0+at'.toNat*1+1≤(own (j8 zs)).length)(o7:(0:Int)≤i64.wrap (at'+1)∧i64.wrap (at'+1)<(n:Int))(o8:(j6 (own (j8 zs)) (0+at'.toNat*1) [.cv (.lit (.int .u32 ↑((zs.getD (0+at'.toNat*1) 0+x*y%4294967296+0)%4294967296)))])[0+(i64.wrap (at'+1)).toNat*1]?=some (.cv (.lit (.int .u32 (↑((zs.set (0+at'.toNat*1) ((zs.getD (0+at'.toNat*1) 0+x*y%4294967296+0)%4294967296)).getD (0+(i64.wrap (at'+1)).toNat*1) 0):Int)))))(o11:(0:Int)≤i64.wrap (at'+1)∧i64.wrap (at'+1)<(n:Int))(o12:0+(i64.wrap (at'+1)).toNat*1+1≤(j6 (own (j8 zs)) (0+at'.toNat*1) [.cv (.lit (.int .u32 ↑((zs.getD (0+at'.toNat*1) 0+x*y%4294967296+0)%4294967296)))]).length)(o13:CvL (j6 (j6 (own (j8 zs)) (0+at'.toNat*1) [.cv (.lit (.int .u32 ↑((zs.getD (0+at'.toNat*1) 0+x*y%4294967296+0)%4294967296)))]) (0+(i64.wrap (at'+1)).toNat*1) [.cv (.lit (.int .u32 (↑(((zs.set (0+at'.toNat*1) ((zs.getD (0+at'.toNat*1) 0+x*y%4294967296+0)%4294967296)).getD (0+(i64.wrap (at'+1)).toNat*1) 0+x*y/4294967296+(zs.getD (0+at'.toNat*1) 0+x*y%4294967296+0)/4294967296)%4294967296):Int)))])){Q:MV→List Blk→Prop}(hR:Ok P 258 (loopHead P 258 0) ⟨J1 63 [(0,.sl 0 0 n 1),(10,.cv (.lit (.int .u32 (↑(((zs.set (0+at'.toNat*1) ((zs.getD (0+at'.toNat*1) 0+x*y%4294967296+0)%4294967296)).getD (0+(i64.wrap (at'+1)).toNat*1) 0+x*y/4294967296+(zs.getD (0+at'.toNat*1) 0+x*y%4294967296+0)/4294967296)/4294967296):Int)))),(11,.cv (.lit (.int .i64 (i64.wrap (at'+2)))))],[some (j6 (j6 (own (j8 zs)) (0+at'.toNat*1) [.cv (.lit (.int .u32 ↑((zs.getD (0+at'.toNat*1) 0+x*y%4294967296+0)%4294967296)))]) (0+(i64.wrap (at'+1)).toNat*1) [.cv (.lit (.int .u32 (↑(((zs.set (0+at'.toNat*1) ((zs.getD (0+at'.toNat*1) 0+x*y%4294967296+0)%4294967296)).getD (0+(i64.wrap (at'+1)).toNat*1) 0+x*y/4294967296+(zs.getD (0+at'.toNat*1) 0+x*y%4294967296+0)/4294967296)%4294967296):Int)))])]⟩ (.lent [some (own (j8 zs))].length Q)):z3m P 258 [some (own (j8 zs))] [.sl 0 0 n 1,.cv (.lit (.int .i64 at')),.cv (.lit (.int .u32 (x:Int))),.cv (.lit (.int .u32 (y:Int)))] Q:=
 z90 (keep:=[0,10,11]) (σ:=[0]) (ors:=[(2,.r (.tup [.lit (.int .u32 ↑(x*y/4294967296)),.lit (.int .u32 ↑(x*y%4294967296))])),(14,.e (.cv (.lit (.int .u32 ↑(zs.getD (0+at'.toNat*1) 0))))),(16,.r (.tup [.lit (.int .u32 ↑((zs.getD (0+at'.toNat*1) 0+x*y%4294967296+0)%4294967296)),.lit (.int .u32 ↑((zs.getD (0+at'.toNat*1) 0+x*y%4294967296+0)/4294967296))])),(30,.e (.cv (.lit (.int .u32 (↑((zs.set (0+at'.toNat*1) ((zs.getD (0+at'.toNat*1) 0+x*y%4294967296+0)%4294967296)).getD (0+(i64.wrap (at'+1)).toNat*1) 0):Int))))),(33,.r (.tup [.lit (.int .u32 (↑(((zs.set (0+at'.toNat*1) ((zs.getD (0+at'.toNat*1) 0+x*y%4294967296+0)%4294967296)).getD (0+(i64.wrap (at'+1)).toNat*1) 0+x*y/4294967296+(zs.getD (0+at'.toNat*1) 0+x*y%4294967296+0)/4294967296)%4294967296):Int)),.lit (.int .u32 (↑(((zs.set (0+at'.toNat*1) ((zs.getD (0+at'.toNat*1) 0+x*y%4294967296+0)%4294967296)).getD (0+(i64.wrap (at'+1)).toNat*1) 0+x*y/4294967296+(zs.getD (0+at'.toNat*1) 0+x*y%4294967296+0)/4294967296)/4294967296):Int))])),(43,.stop)]) (by kernel_rfl) rfl (.cons (zbI x y a c) (.cons o1 (.cons o2 (.cons (eqn 1) (.cons (z1k (zs.getD (0+at'.toNat*1) 0) (x*y%4294967296) 0 d f g) (.cons o5 (.cons o6 (.cons o7 (.cons o8 (.cons (eqn 1) (.cons (z1k ((zs.set (0+at'.toNat*1) ((zs.getD (0+at'.toNat*1) 0+x*y%4294967296+0)%4294967296)).getD (0+(i64.wrap (at'+1)).toNat*1) 0) (x*y/4294967296) ((zs.getD (0+at'.toNat*1) 0+x*y%4294967296+0)/4294967296) i j k) (.cons o11 (.cons o12 (.cons o13 .nil)))))))))))))) rfl hR
theorem zl5(n m o i:Nat)(xs ys zs:List Nat)(h1:decide ((i:Int)<n)=true)(o1:(0:Int)≤i∧(i:Int)<n)(o2:(j8 xs)[(i:Int).toNat*1]?=some (.lit (.int .u32 ↑(xs.getD ((i:Int).toNat*1) 0))))(o4:CvL (own (j8 zs))){R:Goal}(hn:j7 R.n [0]=true)(hR:Ok P 243 (loopHead P 243 1) ⟨J1 45 [(1,.cv (.lst m (j8 ys))),(5,.sl 0 0 o 1),(6,MV.fn 258 [.sl 0 0 o 1] []),(7,.cv (.lit (.int .i64 (i:Int)))),(8,.cv (.lit (.int .u32 ↑(xs.getD ((i:Int).toNat*1) 0)))),(20,.cv (.lst n (j8 xs))),(21,.cv (.lit (.int .i64 (n:Int)))),(22,.cv (.lit (.int .i64 (i:Int)))),(27,.cv (.lst m (j8 ys))),(28,.cv (.lit (.int .i64 (m:Int)))),(29,.cv (.lit (.int .i64 0)))],[some (own (j8 zs))]⟩ R):Ok P 243 (loopHead P 243 0) ⟨J1 45 [(1,.cv (.lst m (j8 ys))),(5,.sl 0 0 o 1),(6,MV.fn 258 [.sl 0 0 o 1] []),(20,.cv (.lst n (j8 xs))),(21,.cv (.lit (.int .i64 (n:Int)))),(22,.cv (.lit (.int .i64 (i:Int))))],[some (own (j8 zs))]⟩ R:=
 z07 (keep:=[1,5,6,7,8,20,21,22,27,28,29]) (σ:=[0]) (.b 2 h1 (.c o1 (.l 5 o2 (.c (eqn 1) (.o 11 .stop .nil))))) (by kernel_rfl) rfl hn hR (.cons o4 .nil)
theorem zmK(n m o i:Nat)(xs ys zs:List Nat)(h1:decide ((i:Int)<n)=false)(a:o=zs.length)(d:Dig 4294967296 zs)(e:zs.length<2^62)(o2:List.take (o*1) (List.drop 0 (own (j8 zs)))=List.map MV.cv (j8 zs)){R:Goal}(hR:R.c (.lst (dig 4294967296 (val 4294967296 zs)).length (j8 (dig 4294967296 (val 4294967296 zs))))):Ok P 243 (loopHead P 243 0) ⟨J1 45 [(1,.cv (.lst m (j8 ys))),(5,.sl 0 0 o 1),(6,MV.fn 258 [.sl 0 0 o 1] []),(20,.cv (.lst n (j8 xs))),(21,.cv (.lit (.int .i64 (n:Int)))),(22,.cv (.lit (.int .i64 (i:Int))))],[some (own (j8 zs))]⟩ R:=
 okT (.b 2 h1 (.rs 4 [j8 zs] (z0x o zs a d e) (.c o2 .nil))) (by kernel_rfl) hR
theorem zn8(n c i:Nat)(zs:List Nat)(h1:((c:Int) != 0)=true)(a:zs.getD (0+(i:Int).toNat*1) 0<4294967296)(d:0<4294967296)(f:c≤1)(o1:(0:Int)≤i∧(i:Int)<n)(o2:(own (j8 zs))[0+(i:Int).toNat*1]?=some (.cv (.lit (.int .u32 ↑(zs.getD (0+(i:Int).toNat*1) 0)))))(o5:(0:Int)≤i∧(i:Int)<n)(o6:0+(i:Int).toNat*1+1≤(own (j8 zs)).length)(o7:CvL (j6 (own (j8 zs)) (0+(i:Int).toNat*1) [.cv (.lit (.int .u32 (↑((zs.getD (0+(i:Int).toNat*1) 0+0+c)%4294967296):Int)))])){R:Goal}(hn:j7 R.n [0]=true)(hR:Ok P 258 (loopHead P 258 0) ⟨J1 63 [(0,.sl 0 0 n 1),(10,.cv (.lit (.int .u32 (↑((zs.getD (0+(i:Int).toNat*1) 0+0+c)/4294967296):Int)))),(11,.cv (.lit (.int .i64 (i64.wrap ((i:Int)+1)))))],[some (j6 (own (j8 zs)) (0+(i:Int).toNat*1) [.cv (.lit (.int .u32 (↑((zs.getD (0+(i:Int).toNat*1) 0+0+c)%4294967296):Int)))])]⟩ R):Ok P 258 (loopHead P 258 0) ⟨J1 63 [(0,.sl 0 0 n 1),(10,.cv (.lit (.int .u32 (c:Int)))),(11,.cv (.lit (.int .i64 (i:Int))))],[some (own (j8 zs))]⟩ R:=
 z1z (m:=1) (keep:=[0,10,11]) (σ:=[0]) (.b 3 h1 (.c o1 (.e 9 o2 (.c (eqn 1) (.r 11 (z1k (zs.getD (0+(i:Int).toNat*1) 0) 0 c a d f) (.c o5 (.c o6 (.o 21 .stop .nil)))))))) (by kernel_rfl) rfl hn hR (.cons o7 .nil)
theorem zeR(n c i:Nat)(zs:List Nat)(h1:((c:Int) != 0)=false)(o2:BlksCv [some (own (j8 zs))]){R:Goal}(hn:R.Lent 1)(hR:R.m (.tup []) [some (own (j8 zs))]):Ok P 258 (loopHead P 258 0) ⟨J1 63 [(0,.sl 0 0 n 1),(10,.cv (.lit (.int .u32 (c:Int)))),(11,.cv (.lit (.int .i64 (i:Int))))],[some (own (j8 zs))]⟩ R:=
 zhU (ors:=[(3,.b false),(4,.a)]) (by kernel_rfl) (.cons h1 (.cons (lq 1 1) (.cons o2 .nil))) hn hR
theorem z7u{b:Nat}: ∀(xs:List Nat) (i d:Nat),i<xs.length→val b (xs.set i d)+b^i*xs.getD i 0=val b xs+b^i*d
 | [],i,d,h=>by simp at h
 |x::xs,0,d,_=>by simp[val];omega
 |x::xs,i+1,d,h=>by
  have ih:=z7u (b:=b) xs i d (by simpa using h)
  simp only[List.set_cons_succ,val,List.getD_cons_succ,Nat.pow_succ]
  have h2:b*(val b (xs.set i d)+b^i*xs.getD i 0)=b*(val b xs+b^i*d):=by rw[ih]
  simp only[Nat.mul_add]at h2
  have e1:b^i*b*xs.getD i 0=b*(b^i*xs.getD i 0):=by rw[Nat.mul_comm (b^i),Nat.mul_assoc]
  have e2:b^i*b*d=b*(b^i*d):=by rw[Nat.mul_comm (b^i),Nat.mul_assoc]
  rw[e1,e2];omega
theorem z0D{b:Nat}(hb:0<b): ∀(xs:List Nat),Dig b xs→Z1 b xs.length (val b xs)=xs
 | [],_=>rfl
 |x::xs,h=>by
  have hx:=h x (by simp)
  simp only[List.length_cons,Z1,val]
  rw[Nat.add_mul_mod_self_left,Nat.mod_eq_of_lt hx,Nat.add_mul_div_left _ _ hb,Nat.div_eq_of_lt hx,Nat.zero_add,z0D hb xs (fun y hy=>h y (by simp[hy]))]
theorem zhc {R : Goal} (hn : R.Lent 1) (n T : Nat) (hn62 : n < 2 ^ 62) (hT : T < B32 ^ n) (hR : R.m (.tup []) [some (own (j8 (Z1 B32 n T)))]) :
    ∀(k i c:Nat) (zs:List Nat),n-i=k→i≤n→zs.length=n→Dig B32 zs→c≤1→val B32 zs+c*B32^i=T→
     Ok P 258 (loopHead P 258 0) ⟨J1 63 [(0,.sl 0 0 n 1),(10,.cv (.lit (.int .u32 c))),(11,.cv (.lit (.int .i64 i)))],[some (own (j8 zs))]⟩ R:=by
 intro k
 induction k with
 |zero=>
  intro i c zs hk hi hz hd hc hv
  have hi2:i=n:=by omega
  subst hi2
  have hc0:c=0:=by
   rcases(by omega:c=0∨c=1)with h|h
   · exact h
   · subst h;omega
  subst hc0
  refine zeR _ _ _ _ (by simp) (BlksCv.one (J0 _)) hn ?_
  have:zs=Z1 B32 i T:=by rw[←z0D (by decide:0<B32) zs hd,hz,←hv];simp
  rw[this];exact hR
 |succ k ih=>
  intro i c zs hk hi hz hd hc hv
  by_cases hc0:c=0
  · subst hc0
    refine zeR _ _ _ _ (by simp) (BlksCv.one (J0 _)) hn ?_
    have:zs=Z1 B32 n T:=by rw[←z0D (by decide:0<B32) zs hd,hz,←hv];simp
    rw[this];exact hR
  · have hlt:i<n:=by omega
    have e2:(0:Nat)+(i:Int).toNat*1=i:=by omega
    have e3:i64.wrap ((i:Int)+1)=((i+1:Nat):Int):=by rw[w64 (by omega)];omega
    have dz:=hd.get (by decide) i
    refine zn8 _ _ _ _ (by simpa using hc0) (by rw[e2];exact dz) (by decide) hc (by omega) (by rw[e2];exact W5 (Y7 (by omega))) (by omega) (by rw[e2,J4,Q7];omega) (by rw[e2,Q6 (by omega)];exact J0 _) (by rw[hn.n];rfl) ?_
    rw[e2,e3,Q6 (by omega)]
    refine ih (i+1) _ _ (by omega) (by omega) (by simpa using hz) (hd.set (Nat.mod_lt _ (by decide)) _) (by simp only[B32]at*;omega) ?_
    have hs:=z7u (b:=B32) zs i ((zs.getD i 0+0+c)%B32) (by omega)
    have hm:=Nat.mod_add_div (zs.getD i 0+0+c) B32
    rw[Nat.pow_succ]
    generalize (zs.getD i 0+0+c)%B32=d at*
    generalize (zs.getD i 0+0+c)/B32=c' at*
    generalize zs.getD i 0=z at*
    generalize B32^i=p at*
    have h1:p*(d+B32*c')=p*(z+0+c):=by rw[hm]
    rw[show c'*(p*B32)=p*(B32*c') by rw[Nat.mul_comm c',Nat.mul_assoc]]
    rw[show c*p=p*c from Nat.mul_comm _ _]at hv
    simp only[Nat.mul_add,Nat.add_zero]at h1
    omega
theorem zhJ (n V at' x y : Nat) (hn : n < 2 ^ 40) (hat : at' + 1 < n) (hV : V + x * y * B32 ^ at' < B32 ^ n) (hx : x < B32) (hy : y < B32) :
    z2l P 258 [some (own (j8 (Z1 B32 n V)))] [.sl 0 0 n 1,.cv (j5 at'),.cv (z4p x),.cv (z4p y)] (.tup []) [some (own (j8 (Z1 B32 n (V+x*y*B32^at'))))]:=by
 have hV0:val B32 (Z1 B32 n V)=V:=by rw[z0h,Nat.mod_eq_of_lt (by omega)]
 have hl:=j9 B32 n V
 have hd:=U8 (by decide:0<B32) n V
 generalize Z1 B32 n V=zs at*
 have e1:(0:Nat)+(at':Int).toNat*1=at':=by omega
 have e2:i64.wrap ((at':Int)+1)=((at'+1:Nat):Int):=by rw[w64 (by omega)];omega
 have e3:(0:Nat)+((at'+1:Nat):Int).toNat*1=at'+1:=by omega
 have e4:i64.wrap ((at':Int)+2)=((at'+2:Nat):Int):=by rw[w64 (by omega)];omega
 have da:=hd.get (by decide) at'
 have db:=hd.get (by decide) (at'+1)
 have hlo:x*y%B32<B32:=Nat.mod_lt _ (by decide)
 have hhi:x*y/B32<B32:=by
  have:x*y≤4294967295*4294967295:=Nat.mul_le_mul (by simp only[B32]at hx;omega) (by simp only[B32]at hy;omega)
  simp only[B32];omega
 have hne:(zs.set at' ((zs.getD at' 0+x*y%B32+0)%B32)).getD (at'+1) 0=zs.getD (at'+1) 0:=z1s (by omega)
 have s1:j6 (own (j8 zs)) at' [MV.cv (CV.lit (.int .u32 (((zs.getD at' 0+x*y%B32+0)%B32:Nat):Int)))]=own (j8 (zs.set at' ((zs.getD at' 0+x*y%B32+0)%B32))):=Q6 (by omega)
 have hc1:(zs.getD at' 0+x*y%B32+0)/B32≤1:=by simp only[B32]at*;omega
 have hl1:(zs.set at' ((zs.getD at' 0+x*y%B32+0)%B32)).length=n:=by simp[hl]
 refine zl8 n at' x y zs hx hy (by rw[e1];exact da) hlo (by omega) ?_ hhi ?_ (by omega) (by rw[e1];exact W5 (Y7 (by omega))) (by omega) (by rw[e1,J4,Q7];omega) (by rw[e2];omega) ?_ (by rw[e2];omega) ?_ ?_ ?_
 · rw[e2,e3,e1];exact hne ▸ db
 · rw[e1];exact hc1
 · rw[e2,e3,e1];exact s1 ▸ W5 (Y7 (by omega))
 · rw[e2,e3,e1];rw[show(4294967296:Nat)=B32 from rfl,s1,J4,Q7];omega
 · rw[e2,e3,e1,show(4294967296:Nat)=B32 from rfl,s1,Q6 (by omega)];exact J0 _
 · rw[e2,e3,e1,e4,show(4294967296:Nat)=B32 from rfl,s1,Q6 (by omega),hne]
   refine zhc (R:= .lent 1 (fun a b=>a= .tup []∧b=[some (own (j8 (Z1 B32 n (V+x*y*B32^at'))))])) ⟨rfl,rfl⟩ n (V+x*y*B32^at') (by omega) hV (show _∧_ from⟨rfl,rfl⟩) _ (at'+2) _ _ rfl (by omega) (by simp[hl]) ((hd.set (Nat.mod_lt _ (by decide)) _).set (Nat.mod_lt _ (by decide)) _) (by simp only[B32]at*;omega) ?_
   have h1:=z7u (b:=B32) zs at' ((zs.getD at' 0+x*y%B32+0)%B32) (by omega)
   have h2:=z7u (b:=B32) (zs.set at' ((zs.getD at' 0+x*y%B32+0)%B32)) (at'+1) ((zs.getD (at'+1) 0+x*y/B32+(zs.getD at' 0+x*y%B32+0)/B32)%B32) (by omega)
   rw[hne]at h2
   have m0:=Nat.mod_add_div (x*y) B32
   have m1:=Nat.mod_add_div (zs.getD at' 0+x*y%B32+0) B32
   have m2:=Nat.mod_add_div (zs.getD (at'+1) 0+x*y/B32+(zs.getD at' 0+x*y%B32+0)/B32) B32
   generalize (zs.getD at' 0+x*y%B32+0)/B32=c0 at*
   generalize (zs.getD (at'+1) 0+x*y/B32+c0)/B32=c1 at*
   generalize (zs.getD (at'+1) 0+x*y/B32+c0)%B32=d1 at*
   generalize (zs.getD at' 0+x*y%B32+0)%B32=d0 at*
   generalize x*y%B32=lo at*
   generalize x*y/B32=hi at*
   generalize x*y=xy at*
   generalize val B32 ((zs.set at' d0).set (at'+1) d1)=V2 at*
   generalize val B32 (zs.set at' d0)=V1 at*
   generalize zs.getD at' 0=z0 at*
   generalize zs.getD (at'+1) 0=z1 at*
   rw[hV0]at h1
   subst m0
   rw[show at'+2=at'+1+1 from rfl,Nat.pow_succ B32 (at'+1)]
   rw[Nat.pow_succ]at h2 ⊢
   generalize B32^at'=p at*
   have q1:p*(d0+B32*c0)=p*(z0+lo+0):=by rw[m1]
   have q2:p*B32*(d1+B32*c1)=p*B32*(z1+hi+c0):=by rw[m2]
   rw[show c1*(p*B32*B32)=p*B32*(B32*c1) by rw[Nat.mul_comm c1,Nat.mul_assoc (p*B32)],show(lo+B32*hi)*p=p*lo+p*B32*hi by rw[Nat.add_mul,Nat.mul_comm lo,Nat.mul_comm (B32*hi),←Nat.mul_assoc]]
   simp only[Nat.mul_add,Nat.add_zero]at q1 q2
   have q3:p*(B32*c0)=p*B32*c0:=by rw[Nat.mul_assoc]
   rw[q3]at q1
   omega
theorem zfo (n V : Nat) (a : Int) (x y : Nat) (ha : 0 ≤ a) (hn : n < 2 ^ 40) (hat : a.toNat + 1 < n) (hV : V + x * y * B32 ^ a.toNat < B32 ^ n) (hx : x < B32) (hy : y < B32) :
    z2l P 258 [some (own (j8 (Z1 B32 n V)))] [.sl 0 0 n 1,.cv (j5 a),.cv (z4p x),.cv (z4p y)] (.tup []) [some (own (j8 (Z1 B32 n (V+x*y*B32^a.toNat))))]:=by
 have:=zhJ n V a.toNat x y hn hat hV hx hy
 rw[show((a.toNat:Nat):Int)=a by omega]at this
 exact this
theorem ze8(W i:Nat):(W/B24^(i/3)%B24)/2^(8*(i%3))%256=W/256^i%256:=by
 have e:(256:Nat)^i=B24^(i/3)*2^(8*(i%3)):=by
  conv=>lhs;rw[←Nat.div_add_mod i 3]
  rw[Nat.pow_add,Nat.pow_mul,show(256:Nat)^3=B24 from rfl,show(256:Nat)=2^8 from rfl,←Nat.pow_mul]
 rw[e,←Nat.div_div_eq_div_mul]
 generalize W/B24^(i/3)=X
 have h3:i%3<3:=Nat.mod_lt _ (by decide)
 have:i%3=0∨i%3=1∨i%3=2:=by omega
 rcases this with h|h|h<;>rw[h]<;>simp only[B24]<;>omega
def zdM(ds:List Nat)(m i:Nat):List Nat:=List.replicate (m-i) 0++(ds.take i).reverse
theorem z9B{ds:List Nat}{m i:Nat}(h:ds.length=m)(hi:i≤m):(zdM ds m i).length=m:=by simp[zdM];omega
theorem zgi{ds:List Nat}{m i:Nat}(h:ds.length=m)(hi:i<m):(zdM ds m i).set (m-1-i) (ds.getD i 0)=zdM ds m (i+1):=by
 unfold zdM
 rw[show m-i=(m-1-i)+1 by omega,List.replicate_succ',List.append_assoc,List.set_append_right _ _ (by simp),show m-(i+1)=m-1-i by omega]
 simp only[List.length_replicate,Nat.sub_self,List.cons_append,List.nil_append,List.set_cons_zero]
 congr 1
 rw[List.take_add_one,List.getElem?_eq_getElem (by omega),Option.toList_some,List.reverse_append]
 simp[List.getD_eq_getElem?_getD,List.getElem?_eq_getElem (show i<ds.length by omega)]
theorem zrx (j : Nat) (bs : List Nat) (h2 : ((bs.getD (j + 0) 0 : Int) == 0) = true) (o2 : (own (u8s bs))[j + 0]? = some (.cv (.lit (.int .u8 (bs.getD (j + 0) 0 : Nat))))) {R : Goal} (hn : j7 R.n [] = true)
    (hR:Ok P 237 (loopHead P 237 1) ⟨J1 45 [(3,.cv (.lst 0 []))],[]⟩ R):Ok P 237 (loopHead P 237 1) ⟨J1 45 [(3,.sl 0 j 1 1)],[some (own (u8s bs))]⟩ R:=
 okS (keep:=[3]) (σ:=[]) (ors:=[(4,Or.b true),(7,Or.e (MV.cv (CV.lit (Value.int u8 (bs.getD (j+0) 0:Nat))))),(10,Or.b true),(12,.r (.lst 0 [])),(14,Or.stop)]) (by kernel_rfl) rfl
  (.cons (show decide ((1:Int)>0)=true by decide) (.cons (show(0:Int)≤0∧(0:Int)<1 by decide) (.cons o2 (.cons (show 1=1 from rfl) (.cons h2 (.cons (show(0:Int)≤1∧(1:Int)=1∧(1:Int)≤1 by decide) .nil)))))) hn hR
theorem ztV{R:Goal}(hR:R.c (X1 ⟨#[]⟩)):Ok P 237 (loopHead P 237 1) ⟨J1 45 [(3,.cv (.lst 0 []))],[]⟩ R:=
 okR (ors:=[(12,.r (.lit (.string ⟨#[]⟩)))]) (by kernel_rfl) (.cons (show([]:List CV)=(⟨#[]⟩:ByteArray).data.toList.map (fun b=>CV.lit (.int .u8 (b.toNat:Nat)))from rfl) (.cons (show(⟨#[]⟩:ByteArray).size=0 from rfl) .nil)) hR
theorem z9S {R : Goal} (hn : R.n = 0) (ds : List Nat) (hd : Dig 256 ds) (_hl : ds.length < 2 ^ 50) (hR : R.c (X1 (z1U (tz ds)))) : ∀ (k j : Nat), j + k = ds.length → tz (ds.take k) = tz ds →
    Ok P 237 (loopHead P 237 1) ⟨J1 45 [(3,.sl 0 j k 1)],[some (own (u8s ds.reverse))]⟩ R:=by
 have hfin: ∀k j,j+k=ds.length→List.take k (List.drop j ds.reverse)=(ds.take k).reverse:=by
  intro k j hjk
  rw[List.reverse_take,List.take_of_length_le (by simp;omega)]
  congr 1;omega
 have hcell: ∀k j,List.take k (List.drop j (own (u8s ds.reverse)))=List.map (fun b=>z2D .u8 (b.toNat:Nat)) (List.map UInt8.ofNat (List.take k (List.drop j ds.reverse))):=by
  intro k j
  have hdd: ∀b∈List.take k (List.drop j ds.reverse),b<256:=fun b hb=>hd b (by have:=List.mem_of_mem_drop (List.mem_of_mem_take hb);simpa using this)
  have:=z6t hdd
  simp only[z2d]at this
  rw[show List.take k (List.drop j (own (u8s ds.reverse)))=own (u8s (List.take k (List.drop j ds.reverse))) by simp[own,u8s,List.map_take,List.map_drop],this]
 intro k
 induction k with
 |zero=>
  intro j hj ht
  refine zk7 j 0 _ (by decide) (hcell 0 j) (by rw[z4B];simp) ?_
  simp only[List.take_zero]at ht ⊢
  rw[←ht]at hR
  exact hR
 |succ k ih=>
  intro j hj ht
  have hg:ds.reverse.getD (j+0) 0=ds.getD k 0:=by
   rw[List.getD_eq_getElem?_getD,List.getD_eq_getElem?_getD,List.getElem?_reverse (by omega)]
   congr 2;omega
  have hcell1:(own (u8s ds.reverse))[j+0]?=some (.cv (.lit (.int .u8 (ds.reverse.getD (j+0) 0:Nat)))):=by
   have:=zmJ (xs:=ds.reverse) (i:=j) (by simp;omega)
   simp only[own,List.getElem?_map,Nat.add_zero,this];rfl
  have htk:ds.take (k+1)=ds.take k++[ds.getD k 0]:=by
   rw[List.take_add_one,List.getElem?_eq_getElem (by omega),List.getD_eq_getElem?_getD,List.getElem?_eq_getElem (by omega)];rfl
  by_cases h0:ds.getD k 0=0
  · by_cases hk0:k=0
    · subst hk0
      refine zrx j _ (by rw[hg,h0];rfl) hcell1 (by rw[hn];rfl) ?_
      refine ztV ?_
      have e:tz ds=[]:=by rw[←ht,htk,h0,W6];rfl
      rw[e]at hR
      exact hR
    refine zmk j (k+1) _ (by simp) (by rw[hg,h0];rfl) (by omega) hcell1 (by omega) (CvL.map_cv _) (by rw[hn];rfl) ?_
    rw[show((k+1:Nat):Int)-1=(k:Int) by omega,Int.toNat_natCast]
    exact ih (j+1) (by omega) (by rw[←ht,htk,h0,W6])
  · refine zmF j (k+1) _ (by simp) (by rw[hg];simpa using h0) (by omega) hcell1 (hcell _ _) (by rw[z4B];simp;omega) ?_
    rw[hfin _ _ hj,zaQ,List.reverse_reverse]
    rw[←ht,htk,z0P h0,←htk]at hR
    exact hR
theorem zhb (xs : List Nat) (hd : Dig B24 xs) (i : Nat) (hi : i / 3 < xs.length) (hb : i < 2 ^ 50) :
    u8.wrap (((xs.getD ((i64.wrap ((i:Int).tdiv 3)).toNat*1) 0:Nat):Int).fdiv (2^min (i64.wrap (8*(i:Int).tmod 3)).toNat 64))=((val B24 xs/256^i%256:Nat):Int):=by
 have e1:i64.wrap ((i:Int).tdiv 3)=((i/3:Nat):Int):=by
  rw[Int.tdiv_eq_ediv_of_nonneg (by omega),w64 (by omega)];omega
 have e2:i64.wrap (8*(i:Int).tmod 3)=((8*(i%3):Nat):Int):=by
  rw[Int.tmod_eq_emod_of_nonneg (by omega),w64 (by omega)];omega
 rw[e1,e2,Int.toNat_natCast,Int.toNat_natCast,Nat.mul_one,Nat.min_eq_left (by omega),wr8]
 have e3:xs.getD (i/3) 0=val B24 xs/B24^(i/3)%B24:=by
  conv=>lhs;rw[←z0D (by decide) xs hd]
  rw[W4 _ _ _ _ hi]
 rw[e3,←ze8]
 generalize val B24 xs/B24^(i/3)%B24=X
 rw[Int.fdiv_eq_ediv_of_nonneg _ (by exact_mod_cast Nat.zero_le _)]
 rw[Int.natCast_emod,Int.natCast_ediv,Int.natCast_pow]
 rfl
theorem z9s {R : Goal} (hn : R.n = 0) (xs : List Nat) (hd : Dig B24 xs) (hl : xs.length < 2 ^ 40) (hR : R.c (X1 (bytesOf (val B24 xs)))) : ∀ (d i : Nat), i + d = 3 * xs.length →
    Ok P 237 (loopHead P 237 0) ⟨J1 45 [(0,.cv (.lst xs.length (j4 xs))),(3,.sl 0 0 (3*xs.length) 1),(4,.cv (.lit (.int .i64 i)))],[some (own (u8s (zdM (Z1 256 (3*xs.length) (val B24 xs)) (3*xs.length) i)))]⟩ R:=by
 have hdl:(Z1 256 (3*xs.length) (val B24 xs)).length=3*xs.length:=j9 _ _ _
 have hdd:Dig 256 (Z1 256 (3*xs.length) (val B24 xs)):=U8 (by decide) _ _
 have hlt:val B24 xs<256^(3*xs.length):=by
  have:=z0I (b:=B24) (by decide) xs hd
  rwa[show B24=256^3 from rfl,←Nat.pow_mul]at this
 intro d
 induction d with
 |zero=>
  intro i hi
  refine ziH xs.length (3*xs.length) i xs _ (decide_eq_false (by omega)) (CvL.map_cv _) (by rw[hn];rfl) ?_
  have e:zdM (Z1 256 (3*xs.length) (val B24 xs)) (3*xs.length) i=(Z1 256 (3*xs.length) (val B24 xs)).reverse:=by
   unfold zdM
   rw[show 3*xs.length-i=0 by omega,List.take_of_length_le (by omega)];rfl
  rw[e]
  refine z9S hn _ hdd (by omega) ?_ (3*xs.length) 0 (by omega) (by rw[List.take_of_length_le (by omega)])
  rw[z0M (by decide) _ hdd,z0h,Nat.mod_eq_of_lt hlt]
  exact hR
 |succ d ih=>
  intro i hi
  have ew:i64.wrap (i64.wrap (((3*xs.length:Nat):Int)-1)-(i:Int))=((3*xs.length-1-i:Nat):Int):=by
   rw[w64 (n:=((3*xs.length:Nat):Int)-1) (by omega),w64 (by omega)];omega
  have e1:i64.wrap ((i:Int).tdiv 3)=((i/3:Nat):Int):=by
   rw[Int.tdiv_eq_ediv_of_nonneg (by omega),w64 (by omega)];omega
  have e2:i64.wrap (8*(i:Int).tmod 3)=((8*(i%3):Nat):Int):=by
   rw[Int.tmod_eq_emod_of_nonneg (by omega),w64 (by omega)];omega
  have hb:=zhb xs hd i (by omega) (by omega)
  have hbl:=z9B hdl (show i≤3*xs.length by omega)
  have hset: ∀x:Int,x=((val B24 xs/256^i%256:Nat):Int)→j6 (own (u8s (zdM (Z1 256 (3*xs.length) (val B24 xs)) (3*xs.length) i))) (0+(3*xs.length-1-i)*1) [.cv (.lit (.int .u8 x))]=own (u8s (zdM (Z1 256 (3*xs.length) (val B24 xs)) (3*xs.length) (i+1))):=by
   intro x hx
   rw[hx,Nat.zero_add,Nat.mul_one,zck (by omega),←W4 256 (3*xs.length) _ i (by omega),zgi hdl (by omega)]
  refine zjb xs.length (3*xs.length) i xs _ (decide_eq_true (by omega)) (by rw[e1];omega) ?_ (by rw[e2];omega) (by rw[ew];omega) ?_ ?_ (by rw[hn];rfl) ?_
  · have:=Y2 (xs:=xs) (i:=i/3) (by omega)
    rw[e1,Int.toNat_natCast,Nat.mul_one];exact this
  · rw[ew,Int.toNat_natCast];simp[own,u8s,hbl];omega
  · rw[ew,Int.toNat_natCast,hset _ hb];exact CvL.map_cv _
  · rw[ew,Int.toNat_natCast,hset _ hb,w64 (by omega)]
    exact ih (i+1) (by omega)
theorem z5R(n:Nat)(xs:List Nat)(hn:n=xs.length)(hd:Dig B24 xs)(hl:xs.length<2^40):PCall P 237 [.lst n (j4 xs)] (X1 (bytesOf (val B24 xs))):=by
 subst hn
 have e1:i64.wrap (3*(xs.length:Int))=((3*xs.length:Nat):Int):=by rw[w64 (by omega)];omega
 refine zpc xs.length xs (by rw [e1]; omega) (by rw [e1, Int.toNat_natCast, Nat.mul_one, z7C]; exact CvL.map_cv _) (R := (· = _)) ?_
 rw[e1,Int.toNat_natCast,Nat.mul_one,z7C]
 have := z9s (R := (· = X1 (bytesOf (val B24 xs)))) rfl xs hd hl rfl (3 * xs.length) 0 (by omega)
 simpa[zdM]using this
theorem zqA(b:Bool)(n:Nat)(xs:List Nat)(h1:(b)=true)(a:n=xs.length)(d:Dig 16777216 xs)(e:xs.length<2^40):PCall P 196 [.lit (.bool b),.lst n (j4 xs)] (.agg [.lit (.bool !(bytesOf (val 16777216 xs)).toList==[]),.lit (.string (bytesOf (val 16777216 xs)))]):=
 j3 (.r 2 (z5R n xs a d e) (.b 5 h1 (.c (lq 2 2) .nil))) (by kernel_rfl)
theorem zsm(b:Bool)(n:Nat)(xs:List Nat)(h1:(b)=false)(a:n=xs.length)(d:Dig 16777216 xs)(e:xs.length<2^40):PCall P 196 [.lit (.bool b),.lst n (j4 xs)] (.agg [.lit (.bool false),.lit (.string (bytesOf (val 16777216 xs)))]):=
 j3 (.r 2 (z5R n xs a d e) (.b 5 h1 (.c (lq 2 2) .nil))) (by kernel_rfl)
theorem z3h(b:Bool)(n:Nat)(xs:List Nat)(hn:n=xs.length)(hd:Dig B24 xs)(hl:xs.length<2^40):PCall P 196 [.lit (.bool b),.lst n (j4 xs)] (J2 (if b then-(val B24 xs:Int)else val B24 xs)):=by
 cases b with
 |true=>
  refine(zqA true n xs rfl hn hd hl).eq ?_
  simp only[J2,if_true,Int.natAbs_neg,Int.natAbs_natCast]
  congr 4
  rw[Y9]
  rw[decide_eq_decide.2 (Z9 (n:=val B24 xs))]
  have key: ∀v:Nat,(!decide (v=0))=decide (-(v:Int)<0):=fun v=>by
   cases v with
   |zero=>rfl
   |succ k=>rw[decide_eq_false (by omega)];exact(decide_eq_true (by omega)).symm
  exact key _
 |false=>
  refine(zsm false n xs rfl hn hd hl).eq ?_
  simp only[J2,Bool.false_eq_true,if_false,Int.natAbs_natCast]
  congr 4
end Go.Fw
