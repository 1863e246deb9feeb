/- A part of the proof that the law returns true for every input: an executor for the model's code, and what functions of the program compute. -/
import Derived.Test.YtcafjpldfnegiaaGreatDoorB11
import Derived.Test.YtcafjpldfnegiaaGreatDoorB15
import Derived.Test.YtcafjpldfnegiaaGreatDoorB24
import Derived.Test.YtcafjpldfnegiaaGreatDoorB30
import Derived.Test.YtcafjpldfnegiaaGreatDoorB33
import Derived.Test.YtcafjpldfnegiaaGreatDoorB34
import Derived.Test.YtcafjpldfnegiaaGreatDoorB35
import Derived.Test.YtcafjpldfnegiaaGreatDoorB42
import Derived.Test.YtcafjpldfnegiaaGreatDoorB44
import Derived.Test.YtcafjpldfnegiaaGreatDoorB46
import Derived.Test.YtcafjpldfnegiaaGreatDoorB47
import Derived.KernelRfl
open Go IntKind
namespace Go.Fw
set_option maxRecDepth 100000
theorem zri(n:Nat)(xs:List Nat)(h1:((n:Int)==0)=true):PCall P 251 [.lst n (j4 xs)] (.lit (.int .i64 0)):=
 j3 (.b 4 h1 .nil) (by kernel_rfl)
theorem zpz(n:Nat)(xs:List Nat)(h1:((n:Int)==0)=false)(o1:(0:Int)≤i64.wrap ((n:Int)-1)∧i64.wrap ((n:Int)-1)<(n:Int))(o2:(j4 xs)[(i64.wrap ((n:Int)-1)).toNat*1]?=some (.lit (.int .i64 (↑(xs.getD ((i64.wrap ((n:Int)-1)).toNat*1) 0):Int)))){R:CV→Prop}(hR:Ok P 251 (loopHead P 251 0) ⟨J1 25 [(3,.cv (.lit (.int .i64 (i64.wrap ((24:Int)*i64.wrap ((n:Int)-1)))))),(4,.cv (.lit (.int .i64 (↑(xs.getD ((i64.wrap ((n:Int)-1)).toNat*1) 0):Int))))],[]⟩ (.of R)):Y3 P 251 [.lst n (j4 xs)] R:=
 Z6 (keep:=[3,4]) (σ:=[]) (.b 4 h1 (.c o1 (.l 15 o2 (.c (eqn 1) (.o 17 .stop .nil))))) (by kernel_rfl) rfl hR .nil
theorem zov(n:Nat)(i:Int)(xs:List Nat)(o1:(0:Int)≤i64.wrap (i.tdiv 24)∧i64.wrap (i.tdiv 24)<(n:Int))(o2:(j4 xs)[(i64.wrap (i.tdiv 24)).toNat*1]?=some (.lit (.int .i64 (↑(xs.getD ((i64.wrap (i.tdiv 24)).toNat*1) 0):Int))))(o5:(0:Int)≤i.tmod 24):PCall P 252 [.lst n (j4 xs),j5 i] (.lit (.int .i64 (X9 BinOp.and i64 ((↑(xs.getD ((i64.wrap (i.tdiv 24)).toNat*1) 0):Int).fdiv ((2:Int)^min (i.tmod 24).toNat 64)) (1:Int)))):=
 j3 (.c (nz 24) (.c o1 (.l 5 o2 (.c (eqn 1) (.c (nz 24) (.c o5 .nil)))))) (by kernel_rfl)
theorem zoQ(c x:Int)(h1:decide (x>0)=true){R:Goal}(hn:j7 R.n []=true)(hR:Ok P 251 (loopHead P 251 0) ⟨J1 25 [(3,.cv (.lit (.int .i64 (i64.wrap (c+1))))),(4,.cv (.lit (.int .i64 (i64.wrap (x.tdiv 2)))))],[]⟩ R):Ok P 251 (loopHead P 251 0) ⟨J1 25 [(3,.cv (j5 c)),(4,.cv (j5 x))],[]⟩ R:=
 z07 (keep:=[3,4]) (σ:=[]) (.b 3 h1 (.c (nz 2) (.o 10 .stop .nil))) (by kernel_rfl) rfl hn hR .nil
theorem ziF(c x:Int)(h1:decide (x>0)=false){R:Goal}(hR:R.c (.lit (.int .i64 c))):Ok P 251 (loopHead P 251 0) ⟨J1 25 [(3,.cv (j5 c)),(4,.cv (j5 x))],[]⟩ R:=
 okT (.b 3 h1 .nil) (by kernel_rfl) hR
theorem zqW(a k:Int)(g1:decide (k<0)=false)(g2:decide (k>100)=false)(g3:decide ((↑(bytesOf a.natAbs).size:Int)>4000)=false)(d:(-9223372036854775808:Int)≤1∧(1:Int)≤9223372036854775807){R:CV→Prop}(hR:Ok P 228 (loopHead P 228 0) ⟨J1 37 [(1,.cv (.lit (.int .i64 k))),(2,.ptr 0 0),(4,.ptr (0+1) 0),(6,.ptr (0+1+1) 0),(7,.cv (.lit (.int .i64 0)))],[some (iB a),some (iB 0),some (iB 1)]⟩ (.of R)):Y3 P 228 [J2 a,j5 k] R:=
 Z6 (keep:=[1,2,4,6,7]) (σ:=[0,1,4]) (.r 4 (J3 a) (.b 10 g1 (.b 15 g2 (.b 21 g3 (.r 22 (Z5 (1:Int) d) (.c (lq 2 2) (.o 26 .stop .nil))))))) (by kernel_rfl) rfl hR (.cons (V0 a) (.cons (V0 0) (.cons (V0 1) .nil)))
theorem zdV{x:Nat}(h:x≠0):U7 x=U7 (x/2)+1:=by
 by_cases h1:x=1
 · subst h1;decide
 · have:=z27 x 1 (by rw[Nat.pow_one];omega)
   rw[Nat.pow_one]at this
   omega
theorem zb0{R:Goal}(hn:j7 R.n []=true): ∀(f x c:Nat),x≤f→c+f<2^62→R.c (j5 (c+U7 x:Nat))→Ok P 251 (loopHead P 251 0) ⟨J1 25 [(3,.cv (j5 c)),(4,.cv (j5 x))],[]⟩ R
 |0,x,c,h,hc,hR=>by
  obtain rfl:x=0:=by omega
  exact ziF c 0 (by decide) hR
 |f+1,x,c,h,hc,hR=>by
  by_cases h0:x=0
  · subst h0
    exact ziF c 0 (by decide) hR
  · refine zoQ c x (decide_eq_true (by omega)) hn ?_
    rw[w64 (n:=(c:Int)+1) (by omega),Int.tdiv_eq_ediv_of_nonneg (by omega),show((x:Int)/2)=((x/2:Nat):Int) by omega,show(c:Int)+1=((c+1:Nat):Int) by omega]
    have hx:x<2^62:=by omega
    rw[w64 (by omega)]
    refine zb0 hn f (x/2) (c+1) (by omega) (by omega) ?_
    rw[show c+1+U7 (x/2)=c+U7 x by rw[zdV h0];omega]
    exact hR
theorem zeY(n k:Nat)(hk:k<(dig B24 n).length):(dig B24 n).getD k 0=n/B24^k%B24:=by
 have:=W4 B24 (dig B24 n).length n k hk
 rwa[z09 (by decide)]at this
theorem z7e(k:Nat):B24^k=2^(24*k):=by rw[show B24=2^24 from rfl,←Nat.pow_mul]
theorem zci(n:Nat)(h:(dig B24 n).length<2^40):PCall P 251 [z0r n] (j5 (U7 n)):=by
 have hge:=J8 (by decide:2≤B24) n
 by_cases h0:(dig B24 n).length=0
 · rw[h0]at hge
   obtain rfl:n=0:=by simpa using hge
   exact zri _ _ (by rw[h0];rfl)
 obtain⟨L,hL⟩: ∃L,(dig B24 n).length=L+1:=⟨(dig B24 n).length-1,by omega⟩
 have e1:i64.wrap (((dig B24 n).length:Int)-1)=(L:Int):=by rw[hL,w64 (by omega)];omega
 have hne:n≠0:=fun e=>by subst e;rw[z2u]at h0;exact h0 rfl
 have hlow:B24^L≤n:=by
  rcases Nat.lt_or_ge n (B24^L)with k|k
  · have:=Q1 (by decide:2≤B24) k;omega
  · exact k
 have ht:(dig B24 n).getD L 0=n/B24^L:=by
  rw[zeY n L (by omega),Nat.mod_eq_of_lt]
  rw[hL,Nat.pow_succ]at hge
  exact(Nat.div_lt_iff_lt_mul (Nat.pow_pos (by decide))).2 (by rw[Nat.mul_comm];exact hge)
 have htb:n/B24^L<B24:=by rw[←ht];exact(Y8 (by decide) n).get (by decide) _
 have hs:U7 n=24*L+U7 (n/B24^L):=by
  rw[z7e]
  exact z27 n (24*L) (by rw[←z7e];exact hlow)
 refine Y6 (zpz (dig B24 n).length (dig B24 n) (by rw[hL];exact beq_false_of_ne (by omega)) (by rw[e1,hL];omega) (by rw[e1];exact z7E (by omega)) ?_)
 rw[e1]
 simp only[Int.toNat_natCast,Nat.mul_one]
 rw[ht,w64 (by omega),show(24:Int)*L=((24*L:Nat):Int) by omega]
 refine zb0 rfl _ _ _ (Nat.le_refl _) (by simp only[B24]at*;omega) ?_
 rw[←hs];rfl
theorem zfn(n i:Nat)(h:i<24*(dig B24 n).length)(hl:(dig B24 n).length<2^40):PCall P 252 [z0r n,j5 i] (j5 (n/2^i%2:Nat)):=by
 have e1:i64.wrap ((i:Int).tdiv 24)=((i/24:Nat):Int):=by rw[Int.tdiv_eq_ediv_of_nonneg (by omega),w64 (by omega)];omega
 have e2:(i:Int).tmod 24=((i%24:Nat):Int):=by rw[Int.tmod_eq_emod_of_nonneg (by omega)];omega
 have hq:i/24<(dig B24 n).length:=by omega
 have key:=zov (dig B24 n).length i (dig B24 n) (by rw[e1];omega) (by rw[e1];simp only[Int.toNat_natCast,Nat.mul_one];exact z7E hq) (by rw[e2];omega)
 rw[e1,e2]at key
 simp only[Int.toNat_natCast,Nat.mul_one]at key
 rw[zeY n _ hq]at key
 have hb:n/B24^(i/24)%B24<B24:=Nat.mod_lt _ (by decide)
 have e3:((n/B24^(i/24)%B24:Nat):Int).fdiv (2^min (i%24) 64)=((n/B24^(i/24)%B24/2^(i%24):Nat):Int):=by
  rw[Nat.min_eq_left (by omega),show(2:Int)^(i%24)=((2^(i%24):Nat):Int) by simp,fdp _ (Int.natCast_nonneg _),Int.natCast_ediv]
 rw[e3,ztM _ (Nat.lt_of_le_of_lt (Nat.div_le_self _ _) (Nat.lt_trans hb (by decide))),z9U _ _ (Nat.mod_lt _ (by decide)),Nat.div_div_eq_div_mul,z7e,←Nat.pow_add,show 24*(i/24)+i%24=i by omega]at key
 exact key
theorem znY(a o k i:Int)(h1:decide (i<k)=true)(d:Two o a){R:Goal}(hn:j7 R.n [0,1,2]=true)(hR:Ok P 228 (loopHead P 228 0) ⟨J1 37 [(1,.cv (.lit (.int .i64 k))),(2,.ptr 0 0),(4,.ptr (0+1) 0),(6,.ptr (0+1+1) 0),(7,.cv (.lit (.int .i64 (i64.wrap (i+1)))))],[some (iB a),some (iB 0),some (iB (o*a))]⟩ R):Ok P 228 (loopHead P 228 0) ⟨J1 37 [(1,.cv (j5 k)),(2,.ptr 0 0),(4,.ptr 1 0),(6,.ptr 2 0),(7,.cv (j5 i))],[some (iB a),some (iB (0:Int)),some (iB o)]⟩ R:=
 z07 (keep:=[1,2,4,6,7]) (σ:=[0,1,2]) (.b 4 h1 (.r 7 (z2A o a d) (.c (lq 2 2) (.o 12 .stop .nil)))) (by kernel_rfl) rfl hn hR (.cons (V0 a) (.cons (V0 0) (.cons (V0 (o*a)) .nil)))
theorem znC(a o k i:Int)(h1:decide (i<k)=false){R:Goal}(hR:R.c (.tup [(J2 o),.lit (.int .i64 0)])):Ok P 228 (loopHead P 228 0) ⟨J1 37 [(1,.cv (j5 k)),(2,.ptr 0 0),(4,.ptr 1 0),(6,.ptr 2 0),(7,.cv (j5 i))],[some (iB a),some (iB (0:Int)),some (iB o)]⟩ R:=
 okT (.b 4 h1 (.c (lq 2 2) .nil)) (by kernel_rfl) hR
theorem z1D(n:Nat)(d:Int)(hl:(dig B24 n).length<2^40)(hd:0≤d∧d≤1):PCall P 232 [.lst (dig B24 n).length (j4 (dig B24 n)),j5 d] (z0r (2*n+d.toNat)):=by
 have:=z8a (dig B24 n).length d (dig B24 n) rfl (Y8 (by decide) n) hl hd
 rwa[Q8 (by decide)]at this
theorem za0(n:Nat)(h:(dig B24 n).length<2^40):PCall P 251 [.lst (dig B24 n).length (j4 (dig B24 n))] (j5 (U7 n)):=zci n h
theorem zsh(n:Nat)(i:Int)(h0:0≤i)(h:i<24*((dig B24 n).length:Int))(hl:(dig B24 n).length<2^40):PCall P 252 [.lst (dig B24 n).length (j4 (dig B24 n)),j5 i] (j5 (n/2^i.toNat%2:Nat)):=by
 have:=zfn n i.toNat (by omega) hl
 rwa[show((i.toNat:Nat):Int)=i by omega]at this
theorem zpn(a:Int)(g:decide (a<0)=false)(d:Sml a.natAbs)(e:(dig 16777216 a.natAbs).length<2^40){R:CV→Prop}(hR:Ok P 229 (loopHead P 229 0) ⟨J1 67 [(2,.ptr 0 0),(4,.cv (.lst (dig 16777216 a.natAbs).length (j4 (dig 16777216 a.natAbs)))),(5,.cv (CV.lit (Value.slice none 0 0))),(6,.cv (CV.lit (Value.slice none 0 0))),(7,.cv (.lit (.int .i64 (i64.wrap ((i64.wrap ((↑(U7 a.natAbs):Int)+1)).tdiv 2)))))],[some (iB 0)]⟩ (.of R)):Y3 P 229 [J2 a] R:=
 Z6 (keep:=[2,4,5,6,7]) (σ:=[1]) (.r 4 (J3 a) (.b 11 g (.r 14 (z05 a.natAbs d) (.r 19 (za0 a.natAbs e) (.c (nz 2) (.o 23 .stop .nil)))))) (by kernel_rfl) rfl hR (.cons (V0 0) .nil)
theorem zsp(n r q:Nat)(k:Int)(h1:decide (k>0)=true){R:Goal}(hn:j7 R.n [0]=true)(hR:Ok P 229 (loopHead P 229 1) ⟨J1 67 [(2,.ptr 0 0),(4,.cv (.lst (dig 16777216 n).length (j4 (dig 16777216 n)))),(5,.cv (.lst (dig 16777216 r).length (j4 (dig 16777216 r)))),(6,.cv (.lst (dig 16777216 q).length (j4 (dig 16777216 q)))),(7,.cv (.lit (.int .i64 k))),(8,.cv (.lit (.int .i64 (i64.wrap (i64.wrap ((2:Int)*k)-1)))))],[some (iB 0)]⟩ R):Ok P 229 (loopHead P 229 0) ⟨J1 67 [(2,.ptr 0 0),(4,.cv (z0r n)),(5,.cv (z0r r)),(6,.cv (z0r q)),(7,.cv (j5 k))],[some (iB (0:Int))]⟩ R:=
 z07 (keep:=[2,4,5,6,7,8]) (σ:=[0]) (.b 3 h1 (.o 8 .stop .nil)) (by kernel_rfl) rfl hn hR (.cons (V0 0) .nil)
theorem zp8(n r q:Nat)(k:Int)(h1:decide (k>0)=false)(a:(dig 16777216 r).length<2^40){R:Goal}(hR:R.c (.tup [(J2 ((if false=true then-(r:Int)else(r:Int)))),.lit (.int .i64 0)])):Ok P 229 (loopHead P 229 0) ⟨J1 67 [(2,.ptr 0 0),(4,.cv (z0r n)),(5,.cv (z0r r)),(6,.cv (z0r q)),(7,.cv (j5 k))],[some (iB (0:Int))]⟩ R:=
 okT (.b 3 h1 (.r 5 (z1w false r a) (.c (lq 2 2) .nil))) (by kernel_rfl) hR
theorem zoA(n r q:Nat)(k i:Int)(h1:decide (i≥i64.wrap (i64.wrap ((2:Int)*k)-2))=true)(h2:decide (i<(↑(U7 n):Int))=true)(a:(dig 16777216 n).length<2^40)(c:(0:Int)≤i)(d:i<24*(↑(dig 16777216 n).length:Int))(e:(dig 16777216 n).length<2^40)(f:(dig 16777216 q).length<2^40)(g:(0:Int)≤(↑(n/2^i.toNat%2):Int)∧(↑(n/2^i.toNat%2):Int)≤1){R:Goal}(hn:j7 R.n [0]=true)(hR:Ok P 229 (loopHead P 229 1) ⟨J1 67 [(2,.ptr 0 0),(4,.cv (.lst (dig 16777216 n).length (j4 (dig 16777216 n)))),(5,.cv (.lst (dig 16777216 r).length (j4 (dig 16777216 r)))),(6,.cv (.lst (dig 16777216 (2*q+(↑(n/2^i.toNat%2):Int).toNat)).length (j4 (dig 16777216 (2*q+(↑(n/2^i.toNat%2):Int).toNat))))),(7,.cv (.lit (.int .i64 k))),(8,.cv (.lit (.int .i64 (i64.wrap (i-1)))))],[some (iB 0)]⟩ R):Ok P 229 (loopHead P 229 1) ⟨J1 67 [(2,.ptr 0 0),(4,.cv (z0r n)),(5,.cv (z0r r)),(6,.cv (z0r q)),(7,.cv (j5 k)),(8,.cv (j5 i))],[some (iB (0:Int))]⟩ R:=
 z07 (keep:=[2,4,5,6,7,8]) (σ:=[0]) (.b 6 h1 (.r 10 (za0 n a) (.b 12 h2 (.r 15 (zsh n i c d e) (.r 19 (z1D q ((↑(n/2^i.toNat%2):Int)) f g) (.o 24 .stop .nil)))))) (by kernel_rfl) rfl hn hR (.cons (V0 0) .nil)
theorem zqO(n r q:Nat)(k i:Int)(h1:decide (i≥i64.wrap (i64.wrap ((2:Int)*k)-2))=true)(h2:decide (i<(↑(U7 n):Int))=false)(a:(dig 16777216 n).length<2^40)(c:(dig 16777216 q).length<2^40)(d:(0:Int)≤0∧(0:Int)≤1){R:Goal}(hn:j7 R.n [0]=true)(hR:Ok P 229 (loopHead P 229 1) ⟨J1 67 [(2,.ptr 0 0),(4,.cv (.lst (dig 16777216 n).length (j4 (dig 16777216 n)))),(5,.cv (.lst (dig 16777216 r).length (j4 (dig 16777216 r)))),(6,.cv (.lst (dig 16777216 (2*q+0)).length (j4 (dig 16777216 (2*q+0))))),(7,.cv (.lit (.int .i64 k))),(8,.cv (.lit (.int .i64 (i64.wrap (i-1)))))],[some (iB 0)]⟩ R):Ok P 229 (loopHead P 229 1) ⟨J1 67 [(2,.ptr 0 0),(4,.cv (z0r n)),(5,.cv (z0r r)),(6,.cv (z0r q)),(7,.cv (j5 k)),(8,.cv (j5 i))],[some (iB (0:Int))]⟩ R:=
 z07 (keep:=[2,4,5,6,7,8]) (σ:=[0]) (.b 6 h1 (.r 10 (za0 n a) (.b 12 h2 (.r 15 (z1D q (0:Int) c d) (.o 20 .stop .nil))))) (by kernel_rfl) rfl hn hR (.cons (V0 0) .nil)
theorem zng(n r q:Nat)(k i:Int)(h1:decide (i≥i64.wrap (i64.wrap ((2:Int)*k)-2))=false)(h2:decide (z1V q (2*(2*r+0)+1)≥0)=true)(a:(dig 16777216 r).length<2^40)(c:(0:Int)≤0∧(0:Int)≤1)(d:(dig 16777216 (2*r+0)).length<2^40)(e:(0:Int)≤1∧(1:Int)≤1)(f:(dig 16777216 q).length<2^40)(g:(dig 16777216 (2*(2*r+0)+1)).length<2^40)(j:(dig 16777216 q).length<2^40)(l:2*(2*r+0)+1≤q)(m:(dig 16777216 r).length<2^40)(p:(0:Int)≤1∧(1:Int)≤1){R:Goal}(hn:j7 R.n [0]=true)(hR:Ok P 229 (loopHead P 229 0) ⟨J1 67 [(2,.ptr 0 0),(4,.cv (.lst (dig 16777216 n).length (j4 (dig 16777216 n)))),(5,.cv (.lst (dig 16777216 (2*r+1)).length (j4 (dig 16777216 (2*r+1))))),(6,.cv (.lst (dig 16777216 (q-(2*(2*r+0)+1))).length (j4 (dig 16777216 (q-(2*(2*r+0)+1)))))),(7,.cv (.lit (.int .i64 (i64.wrap (k-1)))))],[some (iB 0)]⟩ R):Ok P 229 (loopHead P 229 1) ⟨J1 67 [(2,.ptr 0 0),(4,.cv (z0r n)),(5,.cv (z0r r)),(6,.cv (z0r q)),(7,.cv (j5 k)),(8,.cv (j5 i))],[some (iB (0:Int))]⟩ R:=
 z07 (keep:=[2,4,5,6,7]) (σ:=[0]) (.b 6 h1 (.r 8 (z1D r (0:Int) a c) (.r 9 (z1D (2*r+0) (1:Int) d e) (.r 13 (z4b q (2*(2*r+0)+1) f g) (.b 15 h2 (.r 18 (z3b q (2*(2*r+0)+1) j l) (.r 21 (z1D r (1:Int) m p) (.o 26 .stop .nil)))))))) (by kernel_rfl) rfl hn hR (.cons (V0 0) .nil)
theorem zpA(n r q:Nat)(k i:Int)(h1:decide (i≥i64.wrap (i64.wrap ((2:Int)*k)-2))=false)(h2:decide (z1V q (2*(2*r+0)+1)≥0)=false)(a:(dig 16777216 r).length<2^40)(c:(0:Int)≤0∧(0:Int)≤1)(d:(dig 16777216 (2*r+0)).length<2^40)(e:(0:Int)≤1∧(1:Int)≤1)(f:(dig 16777216 q).length<2^40)(g:(dig 16777216 (2*(2*r+0)+1)).length<2^40)(j:(dig 16777216 r).length<2^40)(l:(0:Int)≤0∧(0:Int)≤1){R:Goal}(hn:j7 R.n [0]=true)(hR:Ok P 229 (loopHead P 229 0) ⟨J1 67 [(2,.ptr 0 0),(4,.cv (.lst (dig 16777216 n).length (j4 (dig 16777216 n)))),(5,.cv (.lst (dig 16777216 (2*r+0)).length (j4 (dig 16777216 (2*r+0))))),(6,.cv (.lst (dig 16777216 q).length (j4 (dig 16777216 q)))),(7,.cv (.lit (.int .i64 (i64.wrap (k-1)))))],[some (iB 0)]⟩ R):Ok P 229 (loopHead P 229 1) ⟨J1 67 [(2,.ptr 0 0),(4,.cv (z0r n)),(5,.cv (z0r r)),(6,.cv (z0r q)),(7,.cv (j5 k)),(8,.cv (j5 i))],[some (iB (0:Int))]⟩ R:=
 z07 (keep:=[2,4,5,6,7]) (σ:=[0]) (.b 6 h1 (.r 8 (z1D r (0:Int) a c) (.r 9 (z1D (2*r+0) (1:Int) d e) (.r 13 (z4b q (2*(2*r+0)+1) f g) (.b 15 h2 (.r 17 (z1D r (0:Int) j l) (.o 22 .stop .nil))))))) (by kernel_rfl) rfl hn hR (.cons (V0 0) .nil)
theorem zbs:[MV.cv (CV.lit (Value.int i64 1))]=[MV.cv (CV.lit (Value.int i64 1))]:=rfl
theorem z2n{n m:Nat}(h:Sml n)(hm:m≤255*n+255):(dig B24 m).length<2^40:=by
 obtain⟨k,hk,hlt⟩:=h.lt
 have h1:m<256^(k+1):=by rw[Nat.pow_succ];omega
 have h3:=Q1 (b:=B24) (by decide) (Nat.lt_of_lt_of_le h1 (Nat.pow_le_pow_left (show 256≤B24 by decide) _))
 omega
noncomputable def zub(n r q:Nat)(k:Int):St:=⟨J1 67 [(2,.ptr 0 0),(4,.cv (z0r n)),(5,.cv (z0r r)),(6,.cv (z0r q)),(7,.cv (j5 k))],[some (iB 0)]⟩
noncomputable def ztw(n r q:Nat)(k i:Int):St:=⟨J1 67 [(2,.ptr 0 0),(4,.cv (z0r n)),(5,.cv (z0r r)),(6,.cv (z0r q)),(7,.cv (j5 k)),(8,.cv (j5 i))],[some (iB 0)]⟩
theorem zcS{n i:Nat}(h:U7 n≤i):n<2^i:=by
 by_cases h0:n=0
 · subst h0;exact Nat.pow_pos (by decide)
 · have:U7 n≠0:=by rw[U7,if_neg h0];omega
   obtain⟨j,hj⟩: ∃j,U7 n=j+1:=⟨U7 n-1,by omega⟩
   exact Nat.lt_of_lt_of_le ((z3f h0).1 hj).2 (Nat.pow_le_pow_right (by decide) (by omega))
theorem zdq(n:Nat):U7 n≤24*(dig B24 n).length:=by
 have h:=J8 (by decide:2≤B24) n
 rw[z7e]at h
 by_cases h0:n=0
 · subst h0;exact Nat.zero_le _
 · have:U7 n≠0:=by rw[U7,if_neg h0];omega
   obtain⟨j,hj⟩: ∃j,U7 n=j+1:=⟨U7 n-1,by omega⟩
   have h2:=((z3f h0).1 hj).1
   have:=(Nat.pow_lt_pow_iff_right (show 1<2 by decide)).1 (Nat.lt_of_le_of_lt h2 h)
   omega
theorem zhV {R : Goal} (hn : j7 R.n [0] = true) {n r q k i : Nat} (hs : Sml n) (hq : q ≤ 16 * n + 16) (hk : 2 * k ≤ i + 2) (hi : i < 2 ^ 50) (h : Ok P 229 (loopHead P 229 1) (ztw n r (2 * q + n / 2 ^ i % 2) k (i - 1 : Int)) R) :
    Ok P 229 (loopHead P 229 1) (ztw n r q k i) R:=by
 have e1:i64.wrap (i64.wrap ((2:Int)*k)-2)=2*(k:Int)-2:=by rw[w64 (n:=2*(k:Int)) (by omega),w64 (by omega)]
 have g1:decide ((i:Int)≥i64.wrap (i64.wrap ((2:Int)*k)-2))=true:=by rw[e1];exact decide_eq_true (by omega)
 by_cases hl:i<U7 n
 · refine zoA n r q k i g1 (decide_eq_true (by omega)) (z2n hs (by omega)) (by omega) (by have:=zdq n;simp only[B24]at this;omega) (z2n hs (by omega)) (z2n hs (by omega)) (by omega) hn ?_
   simp only[Int.toNat_natCast]
   rw[w64 (by omega)]
   exact h
 · have:n/2^i=0:=Nat.div_eq_of_lt (zcS (by omega))
   rw[this]at h
   refine zqO n r q k i g1 (decide_eq_false (by omega)) (z2n hs (by omega)) (z2n hs (by omega)) (by decide) hn ?_
   rw[w64 (by omega)]
   exact h
theorem zlA{R:Goal}(hn:j7 R.n [0]=true){n:Nat}(hs:Sml n)(hR: ∀r:Nat,r*r≤n→n<(r+1)*(r+1)→R.c (.tup [J2 (r:Int),j5 0])): ∀(k r q:Nat),k<2^48→r*r+q=n/2^(2*k)→q≤2*r→Ok P 229 (loopHead P 229 0) (zub n r q k) R:=by
 intro k
 induction k with
 |zero=>
  intro r q _ h1 h2
  rw[Nat.mul_zero,Nat.pow_zero,Nat.div_one]at h1
  have hr:r≤n:=by
   rcases Nat.eq_zero_or_pos r with h|h
   · omega
   · have:=Nat.le_mul_of_pos_right r h;omega
  refine zp8 n r q 0 (by decide) (z2n hs (by omega)) ?_
  exact hR r (by omega) (by rw[Nat.add_mul,Nat.mul_add];omega)
 |succ k ih=>
  intro r q hk h1 h2
  have hm:n/2^(2*(k+1))=n/2^(2*k)/4:=by rw[show 2*(k+1)=2*k+2 by omega,Nat.pow_add,Nat.div_div_eq_div_mul]
  have hm1:n/2^(2*k+1)=n/2^(2*k)/2:=by rw[Nat.pow_add,Nat.div_div_eq_div_mul]
  have hmn:n/2^(2*k)≤n:=Nat.div_le_self _ _
  rw[hm]at h1
  have hr:r≤n:=by
   rcases Nat.eq_zero_or_pos r with h|h
   · omega
   · have:=Nat.le_mul_of_pos_right r h;omega
  refine zsp n r q ((k+1:Nat):Int) (decide_eq_true (by omega)) hn ?_
  rw[w64 (n:=2*((k+1:Nat):Int)) (by omega),w64 (by omega),show 2*((k+1:Nat):Int)-1=((2*k+1:Nat):Int) by omega]
  refine zhV hn hs (by omega) (by omega) (by omega) ?_
  rw[show((2*k+1:Nat):Int)-1=((2*k:Nat):Int) by omega]
  refine zhV hn hs (by omega) (by omega) (by omega) ?_
  rw[hm1]
  generalize n/2^(2*k)=m at*
  have e2:2*(2*q+m/2%2)+m%2=4*q+m%4:=by omega
  rw[e2]
  have e1:i64.wrap (i64.wrap ((2:Int)*((k+1:Nat):Int))-2)=2*(k:Int):=by rw[w64 (n:=2*((k+1:Nat):Int)) (by omega),w64 (by omega)];omega
  have g1:decide ((((2*k:Nat):Int)-1)≥i64.wrap (i64.wrap ((2:Int)*((k+1:Nat):Int))-2))=false:=by rw[e1];exact decide_eq_false (by omega)
  have e3:i64.wrap (((k+1:Nat):Int)-1)=(k:Int):=by rw[w64 (by omega)];omega
  by_cases hc:4*r+1≤4*q+m%4
  · refine zng n r (4*q+m%4) _ _ g1 ?_ (z2n hs (by omega)) (by decide) (z2n hs (by omega)) (by decide) (z2n hs (by omega)) (z2n hs (by omega)) (z2n hs (by omega)) (by omega) (z2n hs (by omega)) (by decide) hn ?_
    · refine decide_eq_true ?_
      unfold z1V
      split
      · omega
      · split<;>decide
    · rw[e3,show 2*(2*r+0)+1=4*r+1 by omega]
      refine ih (2*r+1) (4*q+m%4-(4*r+1)) (by omega) ?_ (by omega)
      have:(2*r+1)*(2*r+1)=4*(r*r)+4*r+1:=by grind
      omega
  · refine zpA n r (4*q+m%4) _ _ g1 ?_ (z2n hs (by omega)) (by decide) (z2n hs (by omega)) (by decide) (z2n hs (by omega)) (z2n hs (by omega)) (z2n hs (by omega)) (by decide) hn ?_
    · refine decide_eq_false ?_
      unfold z1V
      rw[if_pos (by omega)]
      decide
    · rw[e3]
      refine ih (2*r) (4*q+m%4) (by omega) ?_ (by omega)
      have:(2*r)*(2*r)=4*(r*r):=by grind
      omega
theorem ziE(n:Nat): ∃r:Nat,r*r≤n∧n<(r+1)*(r+1):=by
 induction n with
 |zero=>exact⟨0,by decide,by decide⟩
 |succ n ih=>
  obtain⟨r,h1,h2⟩:=ih
  by_cases h:n+1<(r+1)*(r+1)
  · exact⟨r,by omega,h⟩
  · refine⟨r+1,by omega,?_⟩
    have:(r+1+1)*(r+1+1)=(r+1)*(r+1)+2*(r+1)+1:=by grind
    omega
noncomputable def isq(n:Nat):Nat:=(ziE n).choose
theorem z7r(n:Nat):isq n*isq n≤n∧n<(isq n+1)*(isq n+1):=(ziE n).choose_spec
theorem zqk{n r:Nat}(h1:r*r≤n)(h2:n<(r+1)*(r+1)):r=isq n:=by
 obtain⟨k1,k2⟩:=z7r n
 rcases Nat.lt_trichotomy r (isq n)with h|h|h
 · have:=Nat.mul_le_mul (show r+1≤isq n from h) (show r+1≤isq n from h);omega
 · exact h
 · have:=Nat.mul_le_mul (show isq n+1≤r from h) (show isq n+1≤r from h);omega
theorem zbU(a:Int)(h0:0≤a)(h:Sml a.natAbs):PCall P 229 [J2 a] (.tup [J2 (isq a.natAbs:Nat),j5 0]):=by
 have hl:=zdq a.natAbs
 have hd:=h.dig24
 refine Y6 (zpn a (decide_eq_false (by omega)) h (z2n h (by omega)) ?_)
 have e1:i64.wrap ((i64.wrap ((U7 a.natAbs:Int)+1)).tdiv 2)=(((U7 a.natAbs+1)/2:Nat):Int):=by
  rw[w64 (n:=(U7 a.natAbs:Int)+1) (by omega),Int.tdiv_eq_ediv_of_nonneg (by omega),w64 (by omega)];omega
 rw[e1]
 refine Ok.nil 5 rfl (Ok.nil 6 rfl ?_)
 have h2:a.natAbs/2^(2*((U7 a.natAbs+1)/2))=0:=Nat.div_eq_of_lt (zcS (by omega))
 exact zlA rfl h (fun r k1 k2=>by rw[←zqk k1 k2];rfl) _ 0 0 (by omega) (by rw[h2]) (by decide)
theorem zl3(a b:Int)(g0:((bytesOf b.natAbs).toList==[])=false)(g1:decide ((↑(bytesOf b.natAbs).size:Int)≤7)=true)(h1:(a.tmod b != 0)=true)(h2:(!decide (a<0)==decide (b<0))=true)(d:a.natAbs<256^7)(e:b.natAbs<256^7)(f:(-9223372036854775808:Int)≤i64.wrap (i64.wrap (a.tdiv b)-1)∧i64.wrap (i64.wrap (a.tdiv b)-1)≤9223372036854775807)(g:(-9223372036854775808:Int)≤i64.wrap (a-i64.wrap (i64.wrap (i64.wrap (a.tdiv b)-1)*b))∧i64.wrap (a-i64.wrap (i64.wrap (i64.wrap (a.tdiv b)-1)*b))≤9223372036854775807)(o6 o7:b≠0):PCall P 233 [J2 a,J2 b] (.tup [(J2 (i64.wrap (i64.wrap (a.tdiv b)-1))),(J2 (i64.wrap (a-i64.wrap (i64.wrap (i64.wrap (a.tdiv b)-1)*b)))),.lit (.int .i64 0)]):=
 j3 (.r 6 (J3 a) (.r 10 (J3 b) (.b 17 g0 (.r 19 (W7 a d) (.b 32 g1 (.r 34 (W7 b e) (.c o6 (.c o7 (.b 48 h1 (.b 55 h2 (.r 60 (Z5 (i64.wrap (i64.wrap (a.tdiv b)-1)) f) (.r 66 (Z5 (i64.wrap (a-i64.wrap (i64.wrap (i64.wrap (a.tdiv b)-1)*b))) g) (.c (lq 2 2) (.c (lq 2 2) .nil)))))))))))))) (by kernel_rfl)
theorem zkA(a b:Int)(g0:((bytesOf b.natAbs).toList==[])=false)(g1:decide ((↑(bytesOf b.natAbs).size:Int)≤7)=true)(h1:(a.tmod b != 0)=true)(h2:(!decide (a<0)==decide (b<0))=false)(d:a.natAbs<256^7)(e:b.natAbs<256^7)(f:(-9223372036854775808:Int)≤i64.wrap (a.tdiv b)∧i64.wrap (a.tdiv b)≤9223372036854775807)(g:(-9223372036854775808:Int)≤i64.wrap (a-i64.wrap (i64.wrap (a.tdiv b)*b))∧i64.wrap (a-i64.wrap (i64.wrap (a.tdiv b)*b))≤9223372036854775807)(o6 o7:b≠0):PCall P 233 [J2 a,J2 b] (.tup [(J2 (i64.wrap (a.tdiv b))),(J2 (i64.wrap (a-i64.wrap (i64.wrap (a.tdiv b)*b)))),.lit (.int .i64 0)]):=
 j3 (.r 6 (J3 a) (.r 10 (J3 b) (.b 17 g0 (.r 19 (W7 a d) (.b 32 g1 (.r 34 (W7 b e) (.c o6 (.c o7 (.b 48 h1 (.b 55 h2 (.r 57 (Z5 (i64.wrap (a.tdiv b)) f) (.r 63 (Z5 (i64.wrap (a-i64.wrap (i64.wrap (a.tdiv b)*b))) g) (.c (lq 2 2) (.c (lq 2 2) .nil)))))))))))))) (by kernel_rfl)
theorem ziS(a b:Int)(g0:((bytesOf b.natAbs).toList==[])=false)(g1:decide ((↑(bytesOf b.natAbs).size:Int)≤7)=false)(g3:decide ((↑(dig B24 (a.natAbs%b.natAbs)).length:Int)>0)=true)(h1:(!decide (a<0)==decide (b<0))=true)(d:a.natAbs<256^7)(e:Sml a.natAbs)(f:Sml b.natAbs)(g:b.natAbs≠0)(i:(dig 16777216 a.natAbs).length<2^36)(j:(dig 16777216 b.natAbs).length<2^36)(k:(dig 16777216 (a.natAbs/b.natAbs)).length<2^40)(l:Sml b.natAbs)(m:(dig 16777216 b.natAbs).length<2^40)(n:a.natAbs%b.natAbs≤b.natAbs)(o:(dig 16777216 (a.natAbs/b.natAbs+1)).length<2^40)(p:(dig 16777216 (b.natAbs-a.natAbs%b.natAbs)).length<2^40):PCall P 233 [J2 a,J2 b] (.tup [(J2 ((if(!decide (a<0)==decide (b<0))=true then-(↑(a.natAbs/b.natAbs+1):Int)else(↑(a.natAbs/b.natAbs+1):Int)))),(J2 ((if decide (b<0)=true then-(↑(b.natAbs-a.natAbs%b.natAbs):Int)else(↑(b.natAbs-a.natAbs%b.natAbs):Int)))),.lit (.int .i64 0)]):=
 j3 (.r 6 (J3 a) (.r 10 (J3 b) (.b 17 g0 (.r 19 (W7 a d) (.b 32 g1 (.r 35 (z05 a.natAbs e) (.r 38 (z05 b.natAbs f) (.r 39 (z13 a.natAbs b.natAbs g i j) (.b 50 h1 (.b 55 g3 (.rs 58 [[.lit (.int .i64 1)]] (zaL (a.natAbs/b.natAbs) k) (.c zbs (.r 62 (z05 b.natAbs l) (.r 64 (z3b b.natAbs (a.natAbs%b.natAbs) m n) (.r 72 (z1w (!decide (a<0)==decide (b<0)) (a.natAbs/b.natAbs+1) o) (.r 76 (z1w (decide (b<0)) (b.natAbs-a.natAbs%b.natAbs) p) (.c (lq 2 2) (.c (lq 2 2) .nil)))))))))))))))))) (by kernel_rfl)
theorem zlr(a b:Int)(g0:((bytesOf b.natAbs).toList==[])=false)(g1:decide ((↑(bytesOf b.natAbs).size:Int)≤7)=false)(_g3:decide ((↑(dig B24 (a.natAbs%b.natAbs)).length:Int)>0)=true)(h1:(!decide (a<0)==decide (b<0))=false)(d:a.natAbs<256^7)(e:Sml a.natAbs)(f:Sml b.natAbs)(g:b.natAbs≠0)(i:(dig 16777216 a.natAbs).length<2^36)(j:(dig 16777216 b.natAbs).length<2^36)(k:(dig 16777216 (a.natAbs/b.natAbs)).length<2^40)(l:(dig 16777216 (a.natAbs%b.natAbs)).length<2^40):PCall P 233 [J2 a,J2 b] (.tup [(J2 ((if(!decide (a<0)==decide (b<0))=true then-(↑(a.natAbs/b.natAbs):Int)else(↑(a.natAbs/b.natAbs):Int)))),(J2 ((if decide (b<0)=true then-(↑(a.natAbs%b.natAbs):Int)else(↑(a.natAbs%b.natAbs):Int)))),.lit (.int .i64 0)]):=
 j3 (.r 6 (J3 a) (.r 10 (J3 b) (.b 17 g0 (.r 19 (W7 a d) (.b 32 g1 (.r 35 (z05 a.natAbs e) (.r 38 (z05 b.natAbs f) (.r 39 (z13 a.natAbs b.natAbs g i j) (.b 50 h1 (.r 62 (z1w (!decide (a<0)==decide (b<0)) (a.natAbs/b.natAbs) k) (.r 66 (z1w (decide (b<0)) (a.natAbs%b.natAbs) l) (.c (lq 2 2) (.c (lq 2 2) .nil))))))))))))) (by kernel_rfl)
theorem zjR(a b:Int)(g0:((bytesOf b.natAbs).toList==[])=false)(g3:decide ((↑(dig B24 (a.natAbs%b.natAbs)).length:Int)>0)=true)(h1:(!decide (a<0)==decide (b<0))=true)(d:256^7≤a.natAbs)(e:Sml a.natAbs)(f:Sml b.natAbs)(g:b.natAbs≠0)(i:(dig 16777216 a.natAbs).length<2^36)(j:(dig 16777216 b.natAbs).length<2^36)(k:(dig 16777216 (a.natAbs/b.natAbs)).length<2^40)(l:Sml b.natAbs)(m:(dig 16777216 b.natAbs).length<2^40)(n:a.natAbs%b.natAbs≤b.natAbs)(o:(dig 16777216 (a.natAbs/b.natAbs+1)).length<2^40)(p:(dig 16777216 (b.natAbs-a.natAbs%b.natAbs)).length<2^40):PCall P 233 [J2 a,J2 b] (.tup [(J2 ((if(!decide (a<0)==decide (b<0))=true then-(↑(a.natAbs/b.natAbs+1):Int)else(↑(a.natAbs/b.natAbs+1):Int)))),(J2 ((if decide (b<0)=true then-(↑(b.natAbs-a.natAbs%b.natAbs):Int)else(↑(b.natAbs-a.natAbs%b.natAbs):Int)))),.lit (.int .i64 0)]):=
 j3 (.r 6 (J3 a) (.r 10 (J3 b) (.b 17 g0 (.r 19 (z28 a d) (.r 35 (z05 a.natAbs e) (.r 38 (z05 b.natAbs f) (.r 39 (z13 a.natAbs b.natAbs g i j) (.b 50 h1 (.b 55 g3 (.rs 58 [[.lit (.int .i64 1)]] (zaL (a.natAbs/b.natAbs) k) (.c zbs (.r 62 (z05 b.natAbs l) (.r 64 (z3b b.natAbs (a.natAbs%b.natAbs) m n) (.r 72 (z1w (!decide (a<0)==decide (b<0)) (a.natAbs/b.natAbs+1) o) (.r 76 (z1w (decide (b<0)) (b.natAbs-a.natAbs%b.natAbs) p) (.c (lq 2 2) (.c (lq 2 2) .nil))))))))))))))))) (by kernel_rfl)
theorem zmv(a b:Int)(g0:((bytesOf b.natAbs).toList==[])=false)(_g3:decide ((↑(dig B24 (a.natAbs%b.natAbs)).length:Int)>0)=true)(h1:(!decide (a<0)==decide (b<0))=false)(d:256^7≤a.natAbs)(e:Sml a.natAbs)(f:Sml b.natAbs)(g:b.natAbs≠0)(i:(dig 16777216 a.natAbs).length<2^36)(j:(dig 16777216 b.natAbs).length<2^36)(k:(dig 16777216 (a.natAbs/b.natAbs)).length<2^40)(l:(dig 16777216 (a.natAbs%b.natAbs)).length<2^40):PCall P 233 [J2 a,J2 b] (.tup [(J2 ((if(!decide (a<0)==decide (b<0))=true then-(↑(a.natAbs/b.natAbs):Int)else(↑(a.natAbs/b.natAbs):Int)))),(J2 ((if decide (b<0)=true then-(↑(a.natAbs%b.natAbs):Int)else(↑(a.natAbs%b.natAbs):Int)))),.lit (.int .i64 0)]):=
 j3 (.r 6 (J3 a) (.r 10 (J3 b) (.b 17 g0 (.r 19 (z28 a d) (.r 35 (z05 a.natAbs e) (.r 38 (z05 b.natAbs f) (.r 39 (z13 a.natAbs b.natAbs g i j) (.b 50 h1 (.r 62 (z1w (!decide (a<0)==decide (b<0)) (a.natAbs/b.natAbs) k) (.r 66 (z1w (decide (b<0)) (a.natAbs%b.natAbs) l) (.c (lq 2 2) (.c (lq 2 2) .nil)))))))))))) (by kernel_rfl)
end Go.Fw
