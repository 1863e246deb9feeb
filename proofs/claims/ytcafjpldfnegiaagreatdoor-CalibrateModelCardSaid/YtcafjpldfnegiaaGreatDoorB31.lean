/- A part of the proof that the law returns true for every input: an executor for the model's code, and what functions of the program compute. -/
import Derived.Test.YtcafjpldfnegiaaGreatDoorB11
import Derived.Test.YtcafjpldfnegiaaGreatDoorB15
import Derived.Test.YtcafjpldfnegiaaGreatDoorB16
import Derived.Test.YtcafjpldfnegiaaGreatDoorB17
import Derived.Test.YtcafjpldfnegiaaGreatDoorB30
import Derived.KernelRfl
open Go IntKind
namespace Go.Fw
set_option maxRecDepth 100000
theorem zlO(n m o i:Nat)(us vs zs:List Nat)(h1:decide ((i:Int)<n)=true){R:Goal}(hn:j7 R.n [0]=true)(hR:Ok P 200 (loopHead P 200 1) ⟨J1 63 [(0,.cv (.lst n (j4 us))),(1,.cv (.lst m (j4 vs))),(5,.sl 0 0 o 1),(6,.cv (.lit (.int .i64 (i:Int)))),(7,.cv (.lit (.int .i64 0))),(8,.cv (.lit (.int .i64 0)))],[some (own (j4 zs))]⟩ R):Ok P 200 (loopHead P 200 0) ⟨J1 63 [(0,.cv (.lst n (j4 us))),(1,.cv (.lst m (j4 vs))),(5,.sl 0 0 o 1),(6,.cv (j5 (i:Int)))],[some (own (j4 zs))]⟩ R:=
 z07 (keep:=[0,1,5,6,7,8]) (σ:=[0]) (.b 5 h1 (.o 8 .stop .nil)) (by kernel_rfl) rfl hn hR (.cons (J0 _) .nil)
theorem zmt(n m o i:Nat)(us vs zs:List Nat)(h1:decide ((i:Int)<n)=false)(a:o=zs.length)(d:Dig 16777216 zs)(e:zs.length<2^62)(o2:List.take (o*1) (List.drop 0 (own (j4 zs)))=List.map MV.cv (j4 zs)){R:Goal}(hR:R.c (.lst (dig 16777216 (val 16777216 zs)).length (j4 (dig 16777216 (val 16777216 zs))))):Ok P 200 (loopHead P 200 0) ⟨J1 63 [(0,.cv (.lst n (j4 us))),(1,.cv (.lst m (j4 vs))),(5,.sl 0 0 o 1),(6,.cv (j5 (i:Int)))],[some (own (j4 zs))]⟩ R:=
 okT (.b 5 h1 (.rs 7 [j4 zs] (z0X o zs a d e) (.c o2 .nil))) (by kernel_rfl) hR
theorem zlh(n o:Nat)(b r i:Int)(us zs:List Nat)(h1:decide (i≥0)=true)(o1:(0:Int)≤i∧i<(n:Int))(o2:(j4 us)[i.toNat*1]?=some (.lit (.int .i64 ↑(us.getD (i.toNat*1) 0))))(o4:b≠0)(o5:(0:Int)≤i∧i<(o:Int))(o6:0+i.toNat*1+1≤(own (j4 zs)).length)(o7:b≠0)(o8:CvL (j6 (own (j4 zs)) (0+i.toNat*1) [.cv (.lit (.int .i64 (i64.wrap ((i64.wrap (i64.wrap (r*16777216)+(↑(us.getD (i.toNat*1) 0):Int))).tdiv b))))])){R:Goal}(hn:j7 R.n [0]=true)(hR:Ok P 265 (loopHead P 265 0) ⟨J1 38 [(0,.cv (.lst n (j4 us))),(1,.cv (.lit (.int .i64 b))),(6,.sl 0 0 o 1),(7,.cv (.lit (.int .i64 ((i64.wrap (i64.wrap (r*16777216)+(↑(us.getD (i.toNat*1) 0):Int))).tmod b)))),(8,.cv (.lit (.int .i64 (i64.wrap (i-1)))))],[some (j6 (own (j4 zs)) (0+i.toNat*1) [.cv (.lit (.int .i64 (i64.wrap ((i64.wrap (i64.wrap (r*16777216)+(↑(us.getD (i.toNat*1) 0):Int))).tdiv b))))])]⟩ R):Ok P 265 (loopHead P 265 0) ⟨J1 38 [(0,.cv (.lst n (j4 us))),(1,.cv (j5 b)),(6,.sl 0 0 o 1),(7,.cv (j5 r)),(8,.cv (j5 i))],[some (own (j4 zs))]⟩ R:=
 z07 (keep:=[0,1,6,7,8]) (σ:=[0]) (.b 3 h1 (.c o1 (.l 9 o2 (.c (eqn 1) (.c o4 (.c o5 (.c o6 (.c o7 (.o 26 .stop .nil))))))))) (by kernel_rfl) rfl hn hR (.cons o8 .nil)
theorem zk5(n o:Nat)(b r i:Int)(us zs:List Nat)(h1:decide (i≥0)=false)(a:o=zs.length)(d:Dig 16777216 zs)(e:zs.length<2^62)(o2:List.take (o*1) (List.drop 0 (own (j4 zs)))=List.map MV.cv (j4 zs)){R:Goal}(hR:R.c (.tup [.lst (dig 16777216 (val 16777216 zs)).length (j4 (dig 16777216 (val 16777216 zs))),.lit (.int .i64 r)])):Ok P 265 (loopHead P 265 0) ⟨J1 38 [(0,.cv (.lst n (j4 us))),(1,.cv (j5 b)),(6,.sl 0 0 o 1),(7,.cv (j5 r)),(8,.cv (j5 i))],[some (own (j4 zs))]⟩ R:=
 okT (.b 3 h1 (.rs 5 [j4 zs] (z0X o zs a d e) (.c o2 .nil))) (by kernel_rfl) hR
theorem zle(n m o i c k:Nat)(us vs zs:List Nat)(h1:decide ((k:Int)<m)=true)(o1:(0:Int)≤i64.wrap ((i:Int)+k)∧i64.wrap ((i:Int)+k)<(o:Int))(o2:(own (j4 zs))[0+(i64.wrap ((i:Int)+k)).toNat*1]?=some (.cv (.lit (.int .i64 (↑(zs.getD (0+(i64.wrap ((i:Int)+k)).toNat*1) 0):Int)))))(o4:(0:Int)≤i∧(i:Int)<n)(o5:(j4 us)[(i:Int).toNat*1]?=some (.lit (.int .i64 ↑(us.getD ((i:Int).toNat*1) 0))))(o7:(0:Int)≤k∧(k:Int)<m)(o8:(j4 vs)[(k:Int).toNat*1]?=some (.lit (.int .i64 ↑(vs.getD ((k:Int).toNat*1) 0))))(o11:(0:Int)≤i64.wrap ((i:Int)+k)∧i64.wrap ((i:Int)+k)<(o:Int))(o12:0+(i64.wrap ((i:Int)+k)).toNat*1+1≤(own (j4 zs)).length)(o14:CvL (j6 (own (j4 zs)) (0+(i64.wrap ((i:Int)+k)).toNat*1) [.cv (.lit (.int .i64 ((i64.wrap ((c:Int)+i64.wrap ((↑(zs.getD (0+(i64.wrap ((i:Int)+k)).toNat*1) 0):Int)+i64.wrap ((↑(us.getD ((i:Int).toNat*1) 0):Int)*(↑(vs.getD ((k:Int).toNat*1) 0):Int))))).tmod 16777216)))])){R:Goal}(hn:j7 R.n [0]=true)(hR:Ok P 200 (loopHead P 200 1) ⟨J1 63 [(0,.cv (.lst n (j4 us))),(1,.cv (.lst m (j4 vs))),(5,.sl 0 0 o 1),(6,.cv (.lit (.int .i64 (i:Int)))),(7,.cv (.lit (.int .i64 (i64.wrap ((i64.wrap ((c:Int)+i64.wrap ((↑(zs.getD (0+(i64.wrap ((i:Int)+k)).toNat*1) 0):Int)+i64.wrap ((↑(us.getD ((i:Int).toNat*1) 0):Int)*(↑(vs.getD ((k:Int).toNat*1) 0):Int))))).tdiv 16777216))))),(8,.cv (.lit (.int .i64 (i64.wrap ((k:Int)+1)))))],[some (j6 (own (j4 zs)) (0+(i64.wrap ((i:Int)+k)).toNat*1) [.cv (.lit (.int .i64 ((i64.wrap ((c:Int)+i64.wrap ((↑(zs.getD (0+(i64.wrap ((i:Int)+k)).toNat*1) 0):Int)+i64.wrap ((↑(us.getD ((i:Int).toNat*1) 0):Int)*(↑(vs.getD ((k:Int).toNat*1) 0):Int))))).tmod 16777216)))])]⟩ R):Ok P 200 (loopHead P 200 1) ⟨J1 63 [(0,.cv (.lst n (j4 us))),(1,.cv (.lst m (j4 vs))),(5,.sl 0 0 o 1),(6,.cv (j5 (i:Int))),(7,.cv (j5 (c:Int))),(8,.cv (j5 (k:Int)))],[some (own (j4 zs))]⟩ R:=
 z07 (keep:=[0,1,5,6,7,8]) (σ:=[0]) (.b 5 h1 (.c o1 (.e 12 o2 (.c (eqn 1) (.c o4 (.l 16 o5 (.c (eqn 1) (.c o7 (.l 20 o8 (.c (eqn 1) (.c (nz 16777216) (.c o11 (.c o12 (.c (nz 16777216) (.o 39 .stop .nil))))))))))))))) (by kernel_rfl) rfl hn hR (.cons o14 .nil)
theorem zn5(n m o i c k:Nat)(us vs zs:List Nat)(h1:decide ((k:Int)<m)=false)(o1:(0:Int)≤i64.wrap ((i:Int)+m)∧i64.wrap ((i:Int)+m)<(o:Int))(o2:0+(i64.wrap ((i:Int)+m)).toNat*1+1≤(own (j4 zs)).length)(o3:CvL (j6 (own (j4 zs)) (0+(i64.wrap ((i:Int)+m)).toNat*1) [.cv (.lit (.int .i64 (c:Int)))])){R:Goal}(hn:j7 R.n [0]=true)(hR:Ok P 200 (loopHead P 200 0) ⟨J1 63 [(0,.cv (.lst n (j4 us))),(1,.cv (.lst m (j4 vs))),(5,.sl 0 0 o 1),(6,.cv (.lit (.int .i64 (i64.wrap ((i:Int)+1)))))],[some (j6 (own (j4 zs)) (0+(i64.wrap ((i:Int)+m)).toNat*1) [.cv (.lit (.int .i64 (c:Int)))])]⟩ R):Ok P 200 (loopHead P 200 1) ⟨J1 63 [(0,.cv (.lst n (j4 us))),(1,.cv (.lst m (j4 vs))),(5,.sl 0 0 o 1),(6,.cv (j5 (i:Int))),(7,.cv (j5 (c:Int))),(8,.cv (j5 (k:Int)))],[some (own (j4 zs))]⟩ R:=
 z07 (keep:=[0,1,5,6]) (σ:=[0]) (.b 5 h1 (.c o1 (.c o2 (.o 17 .stop .nil)))) (by kernel_rfl) rfl hn hR (.cons o3 .nil)
theorem zgb {R : Goal} (hn : j7 R.n [0] = true) (us vs : List Nat) (hl : us.length + vs.length < 2 ^ 41) (hx : Dig B24 us) (hy : Dig B24 vs) (i : Nat) (hi : i < us.length)
    (hR: ∀zs:List Nat,zs.length=us.length+vs.length→Dig B24 zs→(∀p,i+1+vs.length≤p→zs.getD p 0=0)→val B24 zs=val B24 (us.take (i+1))*val B24 vs→
     Ok P 200 (loopHead P 200 0) ⟨J1 63 [(0,.cv (.lst us.length (j4 us))),(1,.cv (.lst vs.length (j4 vs))),(5,.sl 0 0 (us.length+vs.length) 1),(6,.cv (j5 ((i+1:Nat):Int)))],[some (own (j4 zs))]⟩ R):
    ∀(d k:Nat) (zs:List Nat) (c:Nat),vs.length-k=d→k≤vs.length→zs.length=us.length+vs.length→Dig B24 zs→c<B24→(∀p,i+vs.length≤p→zs.getD p 0=0)→
     val B24 zs+c*B24^(i+k)=val B24 (us.take i)*val B24 vs+us.getD i 0*val B24 (vs.take k)*B24^i→
     Ok P 200 (loopHead P 200 1) ⟨J1 63 [(0,.cv (.lst us.length (j4 us))),(1,.cv (.lst vs.length (j4 vs))),(5,.sl 0 0 (us.length+vs.length) 1),(6,.cv (j5 (i:Int))),(7,.cv (j5 (c:Int))),(8,.cv (j5 (k:Int)))],[some (own (j4 zs))]⟩ R:=by
 intro d
 induction d with
 |zero=>
  intro k zs c hd hk hz hdz hc h0 hv
  have:k=vs.length:=by omega
  subst this
  have e1:i64.wrap ((i:Int)+(vs.length:Int))=((i+vs.length:Nat):Int):=by rw[w64 (by omega)];omega
  have e2:(0:Nat)+((i+vs.length:Nat):Int).toNat*1=i+vs.length:=by omega
  have e3:i64.wrap ((i:Int)+1)=((i+1:Nat):Int):=by rw[w64 (by omega)];omega
  have hset:j6 (own (j4 zs)) (i+vs.length) [.cv (.lit (.int .i64 (c:Int)))]=own (j4 (zs.set (i+vs.length) c)):=Z3 (by omega)
  refine zn5 _ _ _ _ _ _ _ _ _ (by simp) (by rw[e1];omega) (by rw[e1,e2,J4,Q9];omega) (by rw[e1,e2,hset];exact J0 _) hn ?_
  rw[e1,e2,hset,e3]
  refine hR _ (by simpa using hz) (hdz.set hc _) (fun p hp=>?_) ?_
  · rw[z8e _ _ _ _ (by omega),if_neg (by omega)];exact h0 p (by omega)
  · rw[List.take_length]at hv
    exact zfm (by omega) (h0 _ (Nat.le_refl _)) hv
 |succ d ih=>
  intro k zs c hd hk hz hdz hc h0 hv
  have e1:i64.wrap ((i:Int)+(k:Int))=((i+k:Nat):Int):=by rw[w64 (by omega)];omega
  have e2:(0:Nat)+((i+k:Nat):Int).toNat*1=i+k:=by omega
  have e3:i64.wrap ((k:Int)+1)=((k+1:Nat):Int):=by rw[w64 (by omega)];omega
  have e4:(i:Int).toNat*1=i:=by omega
  have e5:(k:Int).toNat*1=k:=by omega
  have gx:=Y2 (xs:=us) (i:=(i:Int).toNat*1) (by omega)
  have gy:=Y2 (xs:=vs) (i:=(k:Int).toNat*1) (by omega)
  have gz:=W5 (Y2 (xs:=zs) (i:=i+k) (by omega))
  have dx:=hx.get (by decide) i
  have dy:=hy.get (by decide) k
  have dz:=hdz.get (by decide) (i+k)
  have hp:us.getD i 0*vs.getD k 0<281474976710656:=by
   have:us.getD i 0*vs.getD k 0≤16777215*16777215:=Nat.mul_le_mul (by simp only[B24]at dx;omega) (by simp only[B24]at dy;omega)
   omega
  have hsum:i64.wrap ((c:Int)+i64.wrap (((zs.getD (i+k) 0:Nat):Int)+i64.wrap (((us.getD i 0:Nat):Int)*((vs.getD k 0:Nat):Int))))=((c+zs.getD (i+k) 0+us.getD i 0*vs.getD k 0:Nat):Int):=by
   rw[show((us.getD i 0:Nat):Int)*((vs.getD k 0:Nat):Int)=((us.getD i 0*vs.getD k 0:Nat):Int) by push_cast;rfl]
   generalize us.getD i 0*vs.getD k 0=s at*
   simp only[B24]at dz hc
   rw[w64 (n:=(s:Int)) (by omega),w64 (n:=_+(s:Int)) (by omega),w64 (by omega)];omega
  obtain⟨_,s2,s3⟩:=z7M (s:=c+zs.getD (i+k) 0+us.getD i 0*vs.getD k 0) (by simp only[B24]at dz hc;omega)
  have hset:j6 (own (j4 zs)) (i+k) [.cv (.lit (.int .i64 (((c+zs.getD (i+k) 0+us.getD i 0*vs.getD k 0)%B24:Nat):Int)))]=own (j4 (zs.set (i+k) ((c+zs.getD (i+k) 0+us.getD i 0*vs.getD k 0)%B24))):=Z3 (by omega)
  refine zle _ _ _ _ _ _ _ _ _ (decide_eq_true (by omega)) (by rw[e1];omega) (by rw[e1,e2];exact gz) (by omega) gx (by omega) gy (by rw[e1];omega) (by rw[e1,e2,J4,Q9];omega)
   (by rw[e1,e2,e4,e5,hsum,s2,hset];exact J0 _) hn ?_
  rw[e1,e2,e3,e4,e5,hsum,s2,s3,hset]
  refine ih (k+1) _ _ (by omega) (by omega) (by simpa using hz) (hdz.set (Nat.mod_lt _ (by decide)) _) (zhz hc dz dx dy) (fun p hp=>?_) ?_
  · rw[z8e _ _ _ _ (by omega),if_neg (by omega)];exact h0 p hp
  · exact zbF (by omega) hv
theorem z8o {R : Goal} (hn : j7 R.n [0] = true) (us vs : List Nat) (hl : us.length + vs.length < 2 ^ 41) (hx : Dig B24 us) (hy : Dig B24 vs)
    (hE: ∀zs:List Nat,zs.length=us.length+vs.length→Dig B24 zs→val B24 zs=val B24 us*val B24 vs→
     Ok P 200 (loopHead P 200 0) ⟨J1 63 [(0,.cv (.lst us.length (j4 us))),(1,.cv (.lst vs.length (j4 vs))),(5,.sl 0 0 (us.length+vs.length) 1),(6,.cv (j5 (us.length:Int)))],[some (own (j4 zs))]⟩ R):
    ∀(d i:Nat) (zs:List Nat),us.length-i=d→i≤us.length→zs.length=us.length+vs.length→Dig B24 zs→(∀p,i+vs.length≤p→zs.getD p 0=0)→val B24 zs=val B24 (us.take i)*val B24 vs→
     Ok P 200 (loopHead P 200 0) ⟨J1 63 [(0,.cv (.lst us.length (j4 us))),(1,.cv (.lst vs.length (j4 vs))),(5,.sl 0 0 (us.length+vs.length) 1),(6,.cv (j5 (i:Int)))],[some (own (j4 zs))]⟩ R:=by
 intro d
 induction d with
 |zero=>
  intro i zs hd hi hz hdz h0 hv
  have:i=us.length:=by omega
  subst this
  rw[List.take_length]at hv
  exact hE zs hz hdz hv
 |succ d ih=>
  intro i zs hd hi hz hdz h0 hv
  refine zlO _ _ _ _ _ _ _ (decide_eq_true (by omega)) hn ?_
  refine zgb hn us vs hl hx hy i (by omega) (fun zs' h1 h2 h3 h4=>ih (i+1) zs' (by omega) (by omega) h1 h2 (fun p hp=>h3 p (by omega)) h4) _ 0 zs 0 rfl (Nat.zero_le _) hz hdz (by decide) h0 ?_
  rw[hv];simp[val]
theorem zgY (n m : Nat) (us vs : List Nat) (hn : n = us.length) (hm : m = vs.length) (hu : Dig B24 us) (hv : Dig B24 vs) (hl : us.length < 2 ^ 40) (hl' : vs.length < 2 ^ 40) :
    PCall P 200 [.lst n (j4 us),.lst m (j4 vs)] (z0r (val B24 us*val B24 vs)):=by
 subst hn hm
 have e1:i64.wrap ((us.length:Int)+(vs.length:Int))=((us.length+vs.length:Nat):Int):=by rw[w64 (by omega)];omega
 have e2:((us.length+vs.length:Nat):Int).toNat=us.length+vs.length:=by omega
 refine Y6 (zrb _ _ _ _ (by rw[e1];omega) (by rw[U0];exact J0 _) ?_)
 rw[U0,e1,e2,Nat.mul_one]
 exact z8o (R:= .of fun v=>v=z0r (val B24 us*val B24 vs)) rfl us vs (by omega) hu hv (fun zs hz hdz hv=>by
  refine zmt _ _ _ _ _ _ _ (by simp) hz.symm hdz (by omega) (by rw[←hz];exact z01 _) ?_
  rw[show(16777216:Nat)=B24 from rfl,hv];rfl) _ 0 (List.replicate (us.length+vs.length) 0) rfl (Nat.zero_le _) (by simp) (Dig.replicate (by decide) _) (fun p _=>by simp[List.getD_eq_getElem?_getD,List.getElem?_replicate];split<;>rfl) (by simp[val,z0K])
theorem zcr{B b U Z r x t:Nat}(h:U=b*Z+r)(ht:t=r*B+x):x+B*U=b*(t/b+B*Z)+t%b:=by
 have h1:=Nat.div_add_mod t b
 have e:B*(b*Z+r)=b*(B*Z)+r*B:=by rw[Nat.mul_add,Nat.mul_left_comm,Nat.mul_comm B r]
 rw[h,Nat.mul_add b,e]
 omega
theorem z7y(t b:Nat):(t:Int).tdiv (b:Int)=((t/b:Nat):Int):=rfl
theorem zfU(t b:Nat):(t:Int).tmod (b:Int)=((t%b:Nat):Int):=rfl
theorem zmq{r x b:Nat}(hr:r<b)(hx:x<16777216)(hb:b<16777216):i64.wrap (i64.wrap ((r:Int)*16777216)+(x:Int))=((r*16777216+x:Nat):Int):=by
 rw[w64 (n:=(r:Int)*16777216) (by omega),w64 (by omega)];omega
theorem z9A{t:Nat}(h:t<9223372036854775808):i64.wrap (t:Int)=(t:Int):=w64 (by omega)
theorem zm0{r x b:Nat}(hr:r<b)(hx:x<16777216)(hb0:0<b):(r*16777216+x)/b<16777216:=by
 rw[Nat.div_lt_iff_lt_mul hb0]
 have h1:(r+1)*16777216≤b*16777216:=Nat.mul_le_mul_right _ hr
 omega
theorem zbZ {R : Goal} (hn : j7 R.n [0] = true) (us : List Nat) (b : Nat) (hb0 : 0 < b) (hb : b < B24) (hl : us.length < 2 ^ 40) (hx : Dig B24 us) (hR : R.c (.tup [z0r (val B24 us / b), j5 ((val B24 us % b : Nat) : Int)])) :
    ∀(i:Nat) (zs:List Nat) (r:Nat),i≤us.length→zs.length=us.length→Dig B24 zs→r<b→val B24 (us.drop i)=b*val B24 (zs.drop i)+r→
     Ok P 265 (loopHead P 265 0) ⟨J1 38 [(0,.cv (.lst us.length (j4 us))),(1,.cv (j5 (b:Int))),(6,.sl 0 0 us.length 1),(7,.cv (j5 (r:Int))),(8,.cv (j5 ((i:Int)-1)))],[some (own (j4 zs))]⟩ R:=by
 intro i
 induction i with
 |zero=>
  intro zs r hi hz hd hr hv
  refine zk5 _ _ _ _ _ _ _ (decide_eq_false (by omega)) hz.symm hd (by omega) (by rw[←hz];exact z01 _) ?_
  rw[List.drop_zero,List.drop_zero]at hv
  have e1:val B24 us/b=val B24 zs:=by rw[hv,Nat.mul_add_div hb0,Nat.div_eq_of_lt hr,Nat.add_zero]
  have e2:val B24 us%b=r:=by rw[hv,Nat.mul_add_mod,Nat.mod_eq_of_lt hr]
  rw[e1,e2]at hR;exact hR
 |succ i ih=>
  intro zs r hi hz hd hr hv
  have e0:((i+1:Nat):Int)-1=(i:Int):=by omega
  have e1:(i:Int).toNat*1=i:=by omega
  have e2:(0:Nat)+i=i:=by omega
  have e3:i64.wrap ((i:Int)-1)=(i:Int)-1:=w64 (by omega)
  have dx:=hx.get (by decide) i
  have gx:=Y2 (xs:=us) (i:=(i:Int).toNat*1) (by omega)
  obtain⟨t,ht0⟩: ∃t,t=r*16777216+us.getD i 0:=⟨_,rfl⟩
  have ht:=zmq hr dx hb
  have hq:=zm0 hr dx hb0
  rw[←ht0]at ht hq
  have hset:j6 (own (j4 zs)) i [.cv (.lit (.int .i64 ((t/b:Nat):Int)))]=own (j4 (zs.set i (t/b))):=Z3 (by omega)
  rw[e0]
  refine zlh _ _ _ _ _ _ _ (decide_eq_true (by omega)) (by omega) gx (by omega) (by omega) (by rw[e1,e2,J4,Q9];omega) (by omega) (by rw[e1,e2,ht,z7y,z9A (by omega),hset];exact J0 _) hn ?_
  rw[e1,e2,e3,ht,z7y,zfU,z9A (by omega),hset]
  refine ih _ _ (by omega) (by simpa using hz) (hd.set hq _) (Nat.mod_lt _ hb0) ?_
  rw[z5a (by omega),z42 us i]
  exact zcr hv ht0
theorem zal (n : Nat) (us : List Nat) (b : Nat) (hn : n = us.length) (hb0 : 0 < b) (hb : b < B24) (hl : us.length < 2 ^ 40) (hu : Dig B24 us) :
    PCall P 265 [.lst n (j4 us),j5 (b:Int)] (.tup [z0r (val B24 us/b),j5 ((val B24 us%b:Nat):Int)]):=by
 subst hn
 have e1:(us.length:Int).toNat=us.length:=by omega
 have e2:i64.wrap ((us.length:Int)-1)=(us.length:Int)-1:=w64 (by omega)
 refine Y6 (zpf _ _ _ (by omega) (by rw[U0];exact J0 _) ?_)
 rw[U0,e1,e2,Nat.mul_one]
 exact zbZ (R:= .of fun v=>v= .tup [z0r (val B24 us/b),j5 ((val B24 us%b:Nat):Int)]) rfl us b hb0 hb hl hu rfl us.length (List.replicate us.length 0) 0 (Nat.le_refl _) (by simp) (Dig.replicate (by decide) _) hb0 (by simp[val])
theorem zag(x:Int)(h:0≤x):j4 [x.toNat]=[j5 x]:=by
 simp only[j4,List.map_cons,List.map_nil,Int.toNat_of_nonneg h]
theorem zeT{x:Int}(h:0≤x)(h':x<16777216):Dig B24 [x.toNat]:=by
 intro y hy
 rw[List.mem_singleton]at hy
 simp only[B24];omega
theorem zeo(b n:Nat):val b [n]=n:=by simp[val]
theorem zkU(x:Int)(h:0≤x)(h':x<16777216):PCall P 234 [.lst 1 [j5 x]] (z0r x.toNat):=by
 have:=z0X 1 [x.toNat] rfl (zeT h h') (by simp)
 rwa[zag x h,zeo]at this
theorem ziK(n m:Nat)(us vs:List Nat)(o0:(0:Int)≤i64.wrap ((n:Int)+m)∧i64.wrap ((n:Int)+m)≤i64.wrap ((n:Int)+m)∧(8:Int)*i64.wrap ((n:Int)+m)≤140737488355328∧i64.wrap ((n:Int)+m)≤4611686018427387904∧1=1)(o1:CvL (List.replicate ((i64.wrap ((n:Int)+m)).toNat*1) (.cv (.lit (.int .i64 0))))){Q:MV→List CV→Prop}(hR:Ok P 200 (loopHead P 200 0) ⟨J1 63 [(0,.cv (.lst n (j4 us))),(1,.cv (.lst m (j4 vs))),(5,.sl 0 0 (i64.wrap ((n:Int)+m)).toNat 1),(6,.cv (.lit (.int .i64 0)))],[some (List.replicate ((i64.wrap ((n:Int)+m)).toNat*1) (.cv (.lit (.int .i64 0))))]⟩ (.fresh (z46 Q))):z59 P 200 [.lst n (j4 us),.lst m (j4 vs)] Q:=
 zaA (keep:=[0,1,5,6]) (σ:=[0]) (ors:=[(9,.stop)]) (by kernel_rfl) rfl (.cons o0 (.cons o1 .nil)) hR
theorem zkC(n m o i:Nat)(us vs zs:List Nat)(g1:decide ((i:Int)<n)=false)(a:o=zs.length)(c:zs.length<2^62)(o2:BlksCv [some (own (j4 zs)),some (own (j4 zs))]){R:Goal}(hn:R.Fresh)(hR:R.m (.sl 0 0 (tz zs).length 1) [some (own (j4 zs))]):Ok P 200 (loopHead P 200 0) ⟨J1 63 [(0,.cv (.lst n (j4 us))),(1,.cv (.lst m (j4 vs))),(5,.sl 0 0 o 1),(6,.cv (j5 (i:Int)))],[some (own (j4 zs))]⟩ R:=
 zsy 1 (ors:=[(5,.b false),(7,.m [0] (.sl 0 0 (tz zs).length 1) [some (own (j4 zs))]),(9,.m [0] MV.unk [])]) (by kernel_rfl) (.cons g1 (.cons (z6M o zs a c) (.cons o2 (.cons (show CvL (own (j4 zs))from(J0 _)) .nil)))) hn hR
instance DecOneL(l:List MV):Decidable (zb7 l):=inferInstanceAs (Decidable (∀m∈l,m.one=true))
theorem zgA (n m : Nat) (us vs : List Nat) (hn : n = us.length) (hm : m = vs.length) (hu : Dig B24 us) (hv : Dig B24 vs) (hl : us.length < 2 ^ 40) (hl' : vs.length < 2 ^ 40) :
    zc8 P 200 [.lst n (j4 us),.lst m (j4 vs)] (.sl 0 0 (dig B24 (val B24 us*val B24 vs)).length 1) (j4 (Z1 B24 (n+m) (val B24 us*val B24 vs))):=by
 subst hn hm
 refine⟨?_,z4y _⟩
 have e1:i64.wrap ((us.length:Int)+(vs.length:Int))=((us.length+vs.length:Nat):Int):=by rw[w64 (by omega)];omega
 have e2:((us.length+vs.length:Nat):Int).toNat=us.length+vs.length:=by omega
 refine ziK _ _ _ _ (by rw[e1];omega) (by rw[U0];exact J0 _) ?_
 rw[U0,e1,e2,Nat.mul_one]
 refine z8o (R:= .fresh _) rfl us vs (by omega) hu hv (fun zs hz hdz hvz=>?_) _ 0 (List.replicate (us.length+vs.length) 0) rfl (Nat.zero_le _) (by simp) (Dig.replicate (by decide) _) (fun p _=>by simp[List.getD_eq_getElem?_getD,List.getElem?_replicate];split<;>rfl) (by simp[val,z0K])
 refine zkC _ _ _ _ _ _ _ (by simp) hz.symm (by omega) (BlksCv.two (J0 _) (J0 _)) ⟨rfl,rfl⟩ ?_
 have h1:=z4K (by decide:0<B24) zs hdz
 rw[hz,hvz]at h1
 have h2:=z0M (by decide:2≤B24) zs hdz
 rw[hvz]at h2
 refine⟨j4 zs,rfl,?_,?_⟩
 · rw[h2]
 · rw[←h1]
theorem zae (n : Nat) (us : List Nat) (x : Int) (hn : n = us.length) (hu : Dig B24 us) (hl : us.length < 2 ^ 40) (h : 0 ≤ x) (h' : x < 16777216) :
    zc8 P 200 [.lst n (j4 us),.lst 1 [j5 x]] (.sl 0 0 (dig B24 (val B24 us*x.toNat)).length 1) (j4 (Z1 B24 (n+1) (val B24 us*x.toNat))):=by
 have:=zgA n 1 us [x.toNat] hn rfl hu (zeT h h') hl (by simp)
 rwa[zag x h,zeo]at this
theorem zo7(n o m j i:Nat)(F g c x:Int)(ws qs:List Nat)(cs:List MV)(g1:decide ((i:Int)<n)=true)(o1:(0:Int)≤i64.wrap ((j:Int)+i)∧i64.wrap ((j:Int)+i)<(o:Int))(o2:cs[0+(i64.wrap ((j:Int)+i)).toNat*1]?=some (.cv (.lit (.int .i64 x))))(o4:(0:Int)≤i∧(i:Int)<n)(o5:(own (j4 ws))[0+(i:Int).toNat*1]?=some (.cv (.lit (.int .i64 ↑(ws.getD (0+(i:Int).toNat*1) 0)))))(o7:(0:Int)≤i64.wrap ((j:Int)+i)∧i64.wrap ((j:Int)+i)<(o:Int))(o8:0+(i64.wrap ((j:Int)+i)).toNat*1+1≤cs.length)(o12:CvL (j6 cs (0+(i64.wrap ((j:Int)+i)).toNat*1) [.cv (.lit (.int .i64 (X9 BinOp.and i64 (i64.wrap (c+i64.wrap (x-i64.wrap (g*(↑(ws.getD (0+(i:Int).toNat*1) 0):Int))))) (16777215:Int))))])){R:Goal}(hn:j7 R.n [0,1,2,3]=true)(hR:Ok P 253 (loopHead P 253 2) ⟨J1 238 [(8,.sl 0 0 1 1),(9,.sl (0+1) 0 n 1),(10,.cv (.lit (.int .i64 (n:Int)))),(11,.sl (0+1+1) 0 o 1),(12,.sl (0+1+1+1) 0 m 1),(13,.cv (.lit (.int .i64 (j:Int)))),(15,.cv (.lit (.int .i64 g))),(16,.cv (.lit (.int .i64 ((i64.wrap (c+i64.wrap (x-i64.wrap (g*(↑(ws.getD (0+(i:Int).toNat*1) 0):Int))))).fdiv 16777216)))),(17,.cv (.lit (.int .i64 (i64.wrap ((i:Int)+1)))))],[some [.cv (.lit (.int .i64 F))],some (own (j4 ws)),some (j6 cs (0+(i64.wrap ((j:Int)+i)).toNat*1) [.cv (.lit (.int .i64 (X9 BinOp.and i64 (i64.wrap (c+i64.wrap (x-i64.wrap (g*(↑(ws.getD (0+(i:Int).toNat*1) 0):Int))))) (16777215:Int))))]),some (own (j4 qs))]⟩ R):Ok P 253 (loopHead P 253 2) ⟨J1 238 [(8,.sl 0 0 1 1),(9,.sl 1 0 n 1),(10,.cv (j5 (n:Int))),(11,.sl 2 0 o 1),(12,.sl 3 0 m 1),(13,.cv (j5 (j:Int))),(15,.cv (j5 g)),(16,.cv (j5 c)),(17,.cv (j5 (i:Int)))],[some [.cv (j5 F)],some (own (j4 ws)),some cs,some (own (j4 qs))]⟩ R:=
 z07 (keep:=[8,9,10,11,12,13,15,16,17]) (σ:=[0,1,2,3]) (.b 4 g1 (.c o1 (.c o2 (.c (eqn 1) (.c o4 (.c o5 (.c (eqn 1) (.c o7 (.c o8 (.c (nn 24) (.o 11 (.e (.cv (j5 x))) (.o 16 (.e (.cv (.lit (.int .i64 ↑(ws.getD (0+(i:Int).toNat*1) 0))))) (.o 35 .stop .nil))))))))))))) (by kernel_rfl) rfl hn hR (.cons (by simp[CvL]) (.cons (J0 _) (.cons o12 (.cons (J0 _) .nil))))
theorem zqh(n o m j i:Nat)(F g c x:Int)(ws qs:List Nat)(cs:List MV)(g1:decide ((i:Int)<n)=true)(o1:(0:Int)≤i64.wrap ((j:Int)+i)∧i64.wrap ((j:Int)+i)<(o:Int))(o2:cs[0+(i64.wrap ((j:Int)+i)).toNat*1]?=some (.cv (.lit (.int .i64 x))))(o4:(0:Int)≤i∧(i:Int)<n)(o5:(own (j4 ws))[0+(i:Int).toNat*1]?=some (.cv (.lit (.int .i64 ↑(ws.getD (0+(i:Int).toNat*1) 0)))))(o7:(0:Int)≤i64.wrap ((j:Int)+i)∧i64.wrap ((j:Int)+i)<(o:Int))(o8:0+(i64.wrap ((j:Int)+i)).toNat*1+1≤cs.length)(o12:CvL (j6 cs (0+(i64.wrap ((j:Int)+i)).toNat*1) [.cv (.lit (.int .i64 (X9 BinOp.and i64 (i64.wrap (c+i64.wrap (x+(↑(ws.getD (0+(i:Int).toNat*1) 0):Int)))) (16777215:Int))))])){R:Goal}(hn:j7 R.n [0,1,2,3]=true)(hR:Ok P 253 (loopHead P 253 3) ⟨J1 238 [(8,.sl 0 0 1 1),(9,.sl (0+1) 0 n 1),(10,.cv (.lit (.int .i64 (n:Int)))),(11,.sl (0+1+1) 0 o 1),(12,.sl (0+1+1+1) 0 m 1),(13,.cv (.lit (.int .i64 (j:Int)))),(15,.cv (.lit (.int .i64 g))),(16,.cv (.lit (.int .i64 ((i64.wrap (c+i64.wrap (x+(↑(ws.getD (0+(i:Int).toNat*1) 0):Int)))).fdiv 16777216)))),(18,.cv (.lit (.int .i64 (i64.wrap ((i:Int)+1)))))],[some [.cv (.lit (.int .i64 F))],some (own (j4 ws)),some (j6 cs (0+(i64.wrap ((j:Int)+i)).toNat*1) [.cv (.lit (.int .i64 (X9 BinOp.and i64 (i64.wrap (c+i64.wrap (x+(↑(ws.getD (0+(i:Int).toNat*1) 0):Int)))) (16777215:Int))))]),some (own (j4 qs))]⟩ R):Ok P 253 (loopHead P 253 3) ⟨J1 238 [(8,.sl 0 0 1 1),(9,.sl 1 0 n 1),(10,.cv (j5 (n:Int))),(11,.sl 2 0 o 1),(12,.sl 3 0 m 1),(13,.cv (j5 (j:Int))),(15,.cv (j5 g)),(16,.cv (j5 c)),(18,.cv (j5 (i:Int)))],[some [.cv (j5 F)],some (own (j4 ws)),some cs,some (own (j4 qs))]⟩ R:=
 z07 (keep:=[8,9,10,11,12,13,15,16,18]) (σ:=[0,1,2,3]) (.b 4 g1 (.c o1 (.c o2 (.c (eqn 1) (.c o4 (.c o5 (.c (eqn 1) (.c o7 (.c o8 (.c (nn 24) (.o 11 (.e (.cv (j5 x))) (.o 15 (.e (.cv (.lit (.int .i64 ↑(ws.getD (0+(i:Int).toNat*1) 0))))) (.o 33 .stop .nil))))))))))))) (by kernel_rfl) rfl hn hR (.cons (by simp[CvL]) (.cons (J0 _) (.cons o12 (.cons (J0 _) .nil))))
abbrev dS2(n o m j i:Nat)(F g c:Int)(ws qs:List Nat)(cs:List MV):St:=⟨J1 238 [(8,.sl 0 0 1 1),(9,.sl 1 0 n 1),(10,.cv (j5 (n:Int))),(11,.sl 2 0 o 1),(12,.sl 3 0 m 1),(13,.cv (j5 (j:Int))),(15,.cv (j5 g)),(16,.cv (j5 c)),(17,.cv (j5 (i:Int)))],[some [.cv (j5 F)],some (own (j4 ws)),some cs,some (own (j4 qs))]⟩
abbrev dS3(n o m j i:Nat)(F g c:Int)(ws qs:List Nat)(cs:List MV):St:=⟨J1 238 [(8,.sl 0 0 1 1),(9,.sl 1 0 n 1),(10,.cv (j5 (n:Int))),(11,.sl 2 0 o 1),(12,.sl 3 0 m 1),(13,.cv (j5 (j:Int))),(15,.cv (j5 g)),(16,.cv (j5 c)),(18,.cv (j5 (i:Int)))],[some [.cv (j5 F)],some (own (j4 ws)),some cs,some (own (j4 qs))]⟩
section
variable{R:Goal}(hn:j7 R.n [0,1,2,3]=true)(n o m j g:Nat)(F:Int)(ws qs:List Nat)(hws:n≤ws.length)(hwd:Dig B24 ws)(hg:g<16777216)(hjn:j+n<o)(ho:o<2^41)(X0:Int)(tl:Nat→Int)
include hn hws hwd hjn ho
theorem zsl (hg : g < 16777216) (hk : ∀ (zs : List Int) (c : Int), zs.length = o → Low (j + n) zs → (∀ k, j + n ≤ k → zs.getD k 0 = tl k) → z1o (B24 : Nat) zs + c * ((B24 : Nat) : Int) ^ (j + n) = X0 - ((g * val B24 (ws.take n) * B24 ^ j : Nat) : Int) → -16777216 ≤ c ∧ c ≤ 0 →
      Ok P 253 (loopHead P 253 2) (dS2 n o m j n F (g:Int) c ws qs (own (z6w zs))) R):
    ∀(d i:Nat) (zs:List Int) (c:Int),n-i=d→i≤n→zs.length=o→Low (j+n) zs→(∀k,j+n≤k→zs.getD k 0=tl k)→z1o (B24:Nat) zs+c*((B24:Nat):Int)^(j+i)=X0-((g*val B24 (ws.take i)*B24^j:Nat):Int)→ -16777216≤c∧c≤0→
     Ok P 253 (loopHead P 253 2) (dS2 n o m j i F (g:Int) c ws qs (own (z6w zs))) R:=by
 intro d
 induction d with
 |zero=>
  intro i zs c hd hi hz hlo htl hv hc
  have:i=n:=by omega
  subst this
  exact hk zs c hz hlo htl hv hc
 |succ d ih=>
  intro i zs c hd hi hz hlo htl hv hc
  have e1:i64.wrap ((j:Int)+(i:Int))=((j+i:Nat):Int):=by rw[w64 (by omega)];omega
  have e2:(0:Nat)+((j+i:Nat):Int).toNat*1=j+i:=by omega
  have e3:i64.wrap ((i:Int)+1)=((i+1:Nat):Int):=by rw[w64 (by omega)];omega
  have e4:(0:Nat)+(i:Int).toNat*1=i:=by omega
  have gw:=W5 (Y2 (xs:=ws) (i:=i) (by omega))
  have gx:=z1t (zs:=zs) (k:=j+i) (by omega)
  have dx:=hlo (j+i) (by omega)
  have dw:ws.getD i 0<16777216:=hwd.get (by decide) i
  obtain⟨s1,s2,s3⟩:=zg0 hc dx hg dw
  have hst:=zd5 (b:=B24) (i:=i) (j:=j) (by omega) hv
  have hset: ∀d,j6 (own (z6w zs)) (j+i) [.cv (.lit (.int .i64 d))]=own (z6w (zs.set (j+i) d)):=fun d=>z2w (by omega)
  refine zo7 n o m j i F g c (zs.getD (j+i) 0) ws qs _ (decide_eq_true (by omega)) (by rw[e1];omega) (by rw[e1,e2];exact gx) (by omega) (by rw[e4];exact gw) (by rw[e1];omega) (by rw[e1,e2,J4,z0V];omega) (by rw[e1,e2,hset];exact J0 _) hn ?_
  rw[e1,e2,e3,e4,s1,zr7,zid,hset]
  exact ih (i+1) _ _ (by omega) (by omega) (by rw[List.length_set];exact hz) (hlo.set (by omega) (ztB _))
   (fun k h=>by rw[z1J _ _ _ _ (by omega),if_neg (by omega)];exact htl k h) hst ⟨s2,s3⟩
theorem zsj (G : Int) (hk : ∀ (zs : List Int) (c : Int), zs.length = o → Low (j + n) zs → (∀ k, j + n ≤ k → zs.getD k 0 = tl k) → z1o (B24 : Nat) zs + c * ((B24 : Nat) : Int) ^ (j + n) = X0 + ((val B24 (ws.take n) * B24 ^ j : Nat) : Int) → 0 ≤ c ∧ c ≤ 1 →
      Ok P 253 (loopHead P 253 3) (dS3 n o m j n F G c ws qs (own (z6w zs))) R):
    ∀(d i:Nat) (zs:List Int) (c:Int),n-i=d→i≤n→zs.length=o→Low (j+n) zs→(∀k,j+n≤k→zs.getD k 0=tl k)→z1o (B24:Nat) zs+c*((B24:Nat):Int)^(j+i)=X0+((val B24 (ws.take i)*B24^j:Nat):Int)→0≤c∧c≤1→
     Ok P 253 (loopHead P 253 3) (dS3 n o m j i F G c ws qs (own (z6w zs))) R:=by
 intro d
 induction d with
 |zero=>
  intro i zs c hd hi hz hlo htl hv hc
  have:i=n:=by omega
  subst this
  exact hk zs c hz hlo htl hv hc
 |succ d ih=>
  intro i zs c hd hi hz hlo htl hv hc
  have e1:i64.wrap ((j:Int)+(i:Int))=((j+i:Nat):Int):=by rw[w64 (by omega)];omega
  have e2:(0:Nat)+((j+i:Nat):Int).toNat*1=j+i:=by omega
  have e3:i64.wrap ((i:Int)+1)=((i+1:Nat):Int):=by rw[w64 (by omega)];omega
  have e4:(0:Nat)+(i:Int).toNat*1=i:=by omega
  have gw:=W5 (Y2 (xs:=ws) (i:=i) (by omega))
  have gx:=z1t (zs:=zs) (k:=j+i) (by omega)
  have dx:=hlo (j+i) (by omega)
  have dw:ws.getD i 0<16777216:=hwd.get (by decide) i
  obtain⟨s1,s2,s3⟩:=zgL hc dx dw
  have hst:=zd7 (b:=B24) (i:=i) (j:=j) (by omega) hv
  have hset: ∀d,j6 (own (z6w zs)) (j+i) [.cv (.lit (.int .i64 d))]=own (z6w (zs.set (j+i) d)):=fun d=>z2w (by omega)
  refine zqh n o m j i F G c (zs.getD (j+i) 0) ws qs _ (decide_eq_true (by omega)) (by rw[e1];omega) (by rw[e1,e2];exact gx) (by omega) (by rw[e4];exact gw) (by rw[e1];omega) (by rw[e1,e2,J4,z0V];omega) (by rw[e1,e2,hset];exact J0 _) hn ?_
  rw[e1,e2,e3,e4,s1,zr7,zid,hset]
  exact ih (i+1) _ _ (by omega) (by omega) (by rw[List.length_set];exact hz) (hlo.set (by omega) (ztB _))
   (fun k h=>by rw[z1J _ _ _ _ (by omega),if_neg (by omega)];exact htl k h) hst ⟨s2,s3⟩
end
theorem zqx(n o m j:Nat)(F x y z:Int)(ws xs qs:List Nat)(o0:(0:Int)≤i64.wrap ((j:Int)+n)∧i64.wrap ((j:Int)+n)<(o:Int))(o1:(own (j4 xs))[0+(i64.wrap ((j:Int)+n)).toNat*1]?=some (.cv (.lit (.int .i64 x))))(o3:(0:Int)≤i64.wrap (i64.wrap ((j:Int)+n)-1)∧i64.wrap (i64.wrap ((j:Int)+n)-1)<(o:Int))(o4:(own (j4 xs))[0+(i64.wrap (i64.wrap ((j:Int)+n)-1)).toNat*1]?=some (.cv (.lit (.int .i64 y))))(o6:(0:Int)≤i64.wrap ((n:Int)-1)∧i64.wrap ((n:Int)-1)<(n:Int))(o7:(own (j4 ws))[0+(i64.wrap ((n:Int)-1)).toNat*1]?=some (.cv (.lit (.int .i64 z))))(o9:z≠0){R:Goal}(hn:j7 R.n [0,1,2,3]=true)(hR:Ok P 253 (loopHead P 253 1) ⟨J1 238 [(8,.sl 0 0 1 1),(9,.sl (0+1) 0 n 1),(10,.cv (.lit (.int .i64 (n:Int)))),(11,.sl (0+1+1) 0 o 1),(12,.sl (0+1+1+1) 0 m 1),(13,.cv (.lit (.int .i64 (j:Int)))),(14,.cv (.lit (.int .i64 (i64.wrap (i64.wrap (x*16777216)+y))))),(15,.cv (.lit (.int .i64 (if(16777215:Int)<i64.wrap ((i64.wrap (i64.wrap (x*16777216)+y)).tdiv z)then(16777215:Int)else i64.wrap ((i64.wrap (i64.wrap (x*16777216)+y)).tdiv z)))))],[some [.cv (.lit (.int .i64 F))],some (own (j4 ws)),some (own (j4 xs)),some (own (j4 qs))]⟩ R):Ok P 253 (loopHead P 253 0) ⟨J1 238 [(8,.sl 0 0 1 1),(9,.sl 1 0 n 1),(10,.cv (j5 (n:Int))),(11,.sl 2 0 o 1),(12,.sl 3 0 m 1),(13,.cv (j5 (j:Int)))],[some [.cv (j5 F)],some (own (j4 ws)),some (own (j4 xs)),some (own (j4 qs))]⟩ R:=
 z07 (keep:=[8,9,10,11,12,13,14,15]) (σ:=[0,1,2,3]) (.c o0 (.c o1 (.c (eqn 1) (.c o3 (.c o4 (.c (eqn 1) (.c o6 (.c o7 (.c (eqn 1) (.c o9 (.o 9 (.e (.cv (j5 x))) (.o 17 (.e (.cv (j5 y))) (.o 25 (.e (.cv (j5 z))) (.o 29 .stop .nil)))))))))))))) (by kernel_rfl) rfl hn hR (.cons (by simp[CvL]) (.cons (J0 _) (.cons (J0 _) (.cons (J0 _) .nil))))
end Go.Fw
