/- A part of the proof that the law returns true for every input: an executor for the model's code, and what functions of the program compute. -/
import Derived.Test.YtcafjpldfnegiaaGreatDoorB11
import Derived.Test.YtcafjpldfnegiaaGreatDoorB15
import Derived.Test.YtcafjpldfnegiaaGreatDoorB17
import Derived.Test.YtcafjpldfnegiaaGreatDoorB21
import Derived.Test.YtcafjpldfnegiaaGreatDoorB35
import Derived.Test.YtcafjpldfnegiaaGreatDoorB36
import Derived.Test.YtcafjpldfnegiaaGreatDoorB40
import Derived.Test.YtcafjpldfnegiaaGreatDoorB41
import Derived.Test.YtcafjpldfnegiaaGreatDoorB42
import Derived.Test.YtcafjpldfnegiaaGreatDoorB43
import Derived.KernelRfl
open Go IntKind
namespace Go.Fw
set_option maxRecDepth 100000
theorem zjK(n:Nat)(es:List CV)(k mi mo:Int)(h1:decide (k<(n:Int))=true)(h2:(!rdP (mi,mo))=true)(o1:(0:Int)≤k∧k<(n:Int))(o2:List.take 2 (List.drop (k.toNat*2) es)=[.lit (.int .i64 mi),.lit (.int .i64 mo)]){R:Goal}(hR:R.c (.lit (.int .i64 k))):Ok P 230 (loopHead P 230 0) ⟨J1 19 [(0,.cv (.lst n es)),(1,.cv (CV.lit (Value.func (Fn.func 182) #[] #[]))),(7,.cv (j5 (n:Int))),(8,.cv (j5 k))],[]⟩ R:=
 okT (.b 2 h1 (.c o1 (.c o2 (.c (eqn 2) (.c ((zp3 mi mo).eqB h2) (.o 9 (.r (.agg [.lit (.int .i64 mi),.lit (.int .i64 mo)])) (.o 10 (.r (.lit (.bool true))) .nil))))))) (by kernel_rfl) hR
theorem zlq(n:Nat)(es:List CV)(k mi mo:Int)(h1:decide (k<(n:Int))=true)(h2:(!rdP (mi,mo))=false)(o1:(0:Int)≤k∧k<(n:Int))(o2:List.take 2 (List.drop (k.toNat*2) es)=[.lit (.int .i64 mi),.lit (.int .i64 mo)]){R:Goal}(hn:j7 R.n []=true)(hR:Ok P 230 (loopHead P 230 0) ⟨J1 19 [(0,.cv (.lst n es)),(1,.cv (CV.lit (Value.func (Fn.func 182) {toList:=[]} {toList:=[]}))),(7,.cv (.lit (.int .i64 (n:Int)))),(8,.cv (.lit (.int .i64 (i64.wrap (k+1)))))],[]⟩ R):Ok P 230 (loopHead P 230 0) ⟨J1 19 [(0,.cv (.lst n es)),(1,.cv (CV.lit (Value.func (Fn.func 182) #[] #[]))),(7,.cv (j5 (n:Int))),(8,.cv (j5 k))],[]⟩ R:=
 z07 (keep:=[0,1,7,8]) (σ:=[]) (.b 2 h1 (.c o1 (.c o2 (.c (eqn 2) (.c ((zp3 mi mo).eqB h2) (.o 9 (.r (.agg [.lit (.int .i64 mi),.lit (.int .i64 mo)])) (.o 10 (.r (.lit (.bool false))) (.o 14 .stop .nil)))))))) (by kernel_rfl) rfl hn hR .nil
theorem zmc(n:Nat)(es:List CV)(k _mi _mo:Int)(h1:decide (k<(n:Int))=false){R:Goal}(hR:R.c (.lit (.int .i64 (-1:Int)))):Ok P 230 (loopHead P 230 0) ⟨J1 19 [(0,.cv (.lst n es)),(1,.cv (CV.lit (Value.func (Fn.func 182) #[] #[]))),(7,.cv (j5 (n:Int))),(8,.cv (j5 k))],[]⟩ R:=
 okT (.b 2 h1 .nil) (by kernel_rfl) hR
theorem zt9(l:List (Int×Int))(hl:l.length<2^30):PCall P 230 [rdV l,.lit (.func (.func 182) #[] #[])] (j5 (ixF l 0)):=by
 refine znB l.length (flat rdL l) (R := (· = _)) ?_
 have key:=z5H (fun k=> ∀R:Goal,j7 R.n []=true→R.c (j5 (ixF (l.drop k) k))→Ok P 230 (loopHead P 230 0) ⟨J1 19 [(0,.cv (.lst l.length (flat rdL l))),(1,.cv (.lit (.func (.func 182) #[] #[]))),(7,.cv (j5 l.length)),(8,.cv (j5 k))],[]⟩ R) l.length ?_ ?_
 · exact key _ rfl rfl
 · intro k hk ih R hn hR
   have b:(0:Int)≤(k:Int)∧(k:Int)<(l.length:Int):=by omega
   have i1:=decide_eq_true b.2
   rw[List.drop_eq_getElem_cons hk]at hR
   unfold ixF at hR
   cases h:rdP l[k]
   · rw[h,if_neg (by decide)]at hR
     exact zjK l.length (flat rdL l) k l[k].1 l[k].2 i1 (by rw[show(l[k].1,l[k].2)=l[k]from rfl,h];rfl) b (z0O z1a hk) hR
   · rw[h,if_pos rfl]at hR
     refine zlq l.length (flat rdL l) k l[k].1 l[k].2 i1 (by rw[show(l[k].1,l[k].2)=l[k]from rfl,h];rfl) b (z0O z1a hk) hn ?_
     rw[w64 (by omega)]
     exact ih R hn hR
 · intro R hn hR
   rw[List.drop_length]at hR
   exact zmc l.length (flat rdL l) l.length 0 0 (decide_eq_false (by omega)) hR
theorem zqK(l:List (Int×Int))(a:l.length<2^30):PCall P 181 [rdV l,CV.lit (Value.func (Fn.func 182) #[] #[])] (.lit (.bool (decide (ixF l 0≥0)))):=
 j3 (.r 3 (zt9 l a) .nil) (by kernel_rfl)
theorem zoM(i:Int)(a:(-9223372036854775808:Int)≤1∧(1:Int)≤9223372036854775807):PCall P 143 [j5 i] (z5f (oN (1:Int)) (kN (z5o i)) (kN (z9n i))):=
 j3 (.r 1 (zdk (1:Int) a) (.r 3 (zsV i) (.r 5 (zsT i) (.c (lq 30 30) .nil)))) (by kernel_rfl)
theorem zbW{v w:VN}{n:Nat}(hv:v.raw n=true)(hw:w.raw n=true):(z3Z v w).raw (n+n+n+n+3)=true:=by
 refine z7i ?_
 cases ev:toV v with
 |none=>exact Nat.zero_le _
 |some a=>
  cases ew:toV w with
  |none=>exact Nat.zero_le _
  |some b=>
   obtain⟨x,y,z⟩:=z1p ev hv
   obtain⟨x',y',z'⟩:=z1p ew hw
   have key: ∀c d e f:K,c.sz≤n→d.sz≤n→e.sz≤n→f.sz≤n→(c*d-e*f).sz≤n+n+n+n+3:=by
    intro c d e f h1 h2 h3 h4
    have m1:=K.sz_mul c d
    have m2:=K.sz_mul e f
    have m3:=K.sz_sub (c*d) (e*f)
    omega
   have k1:=key a.y b.z a.z b.y y z' z y'
   have k2:=key a.z b.x a.x b.z z x' x z'
   have k3:=key a.x b.y a.y b.x x y' y x'
   show max (a.y*b.z-a.z*b.y).sz (max (a.z*b.x-a.x*b.z).sz (a.x*b.y-a.y*b.x).sz)≤_
   omega
theorem z2A(a b:Int)(h:Two a b):PCall P 128 [J2 a,J2 b] (J2 (a*b)):=by
 obtain⟨n,hn,ha,hb⟩:=h
 exact Y5 a b (ha.sml (by omega)) (hb.sml (by omega)) (ha.sm2 hb (by omega))
theorem z75(a b:Int)(h:Two a b):PCall P 127 [J2 a,J2 b] (J2 (a+b)):=by
 obtain⟨n,hn,ha,hb⟩:=h
 exact z0v a b (ha.sml (by omega)) (hb.sml (by omega)) (ha.sma hb (by omega))
theorem zre(x y:RN)(a:RN.raw 1000000 x=true)(d:RN.raw 1000000 y=true)(e:RN.raw 1000000 (z2E x y)=true):PCall P 167 [x.c,y.c] (.lit (.int .i64 (zdC (z2E x y)))):=
 j3 (.r 5 (zaB x y a d) (.r 6 (z9Y (z2E x y) e) .nil)) (by kernel_rfl)
noncomputable def ztc(x y:RN):Int:=zdC (z2E x y)
theorem zoZ(x y:RN)(hx:x.raw 100000=true)(hy:y.raw 100000=true):PCall P 167 [x.c,y.c] (j5 (ztc x y)):=
 zre x y (RN.raw_mono hx (by decide)) (RN.raw_mono hy (by decide)) (RN.raw_mono (zlo hx hy) (by decide))
theorem RN.l_inj{x y:RN}(h:x.l=y.l):x=y:=by
 obtain⟨b0,s0,b1,s1,b2,s2,b3,s3,b4,s4⟩:=x
 obtain⟨c0,t0,c1,t1,c2,t2,c3,t3,c4,t4⟩:=y
 unfold RN.l at h
 simp only[List.cons.injEq,and_true,X1,CV.lit.injEq,Value.bool.injEq,Value.string.injEq]at h
 obtain⟨rfl,h0,rfl,h1,rfl,h2,rfl,h3,rfl,h4⟩:=h
 subst h0 h1 h2 h3 h4
 rfl
theorem zlI{x:RN}(h:x.ok=true): ∃k,x=kN k:=by
 obtain⟨k,_,e⟩:=zh7 h
 refine⟨k,RN.l_inj ?_⟩
 rw[e,z1C,RN.ofK_l]
noncomputable def kV(a b c:K):VN:=⟨kN a,kN b,kN c⟩
theorem zt8{v:VN}(h:v.ok=true): ∃a b c,v=kV a b c:=by
 obtain⟨x,y,z⟩:=v
 have h:ok3 x y z=true:=h
 unfold ok3 at h
 simp only[Bool.and_eq_true]at h
 obtain⟨h1,h2,h3⟩:=h
 obtain⟨a,rfl⟩:=zlI h1
 obtain⟨b,rfl⟩:=zlI h2
 obtain⟨c,rfl⟩:=zlI h3
 exact⟨a,b,c,rfl⟩
theorem zeS(a b c a' b' c':K):z3y (kV a b c) (kV a' b' c')=kN (a*a'+b*b'+c*c'):=by
 unfold z3y kV
 rw[za4,za4,z1C];rfl
theorem zkE(a b c a' b' c':K):z0G (kV a b c) (kV a' b' c')=kV (a+a') (b+b') (c+c'):=by
 unfold z0G kV
 rw[za4,za4,z1C,z1C,z1C];rfl
theorem zfa(a b c k:K):Q0 (kV a b c) (kN k)=kV (a*k) (b*k) (c*k):=zhK a b c k
theorem zs6(a b:K):ztc (kN a) (kN b)=K.sgn (a-b):=by unfold ztc;rw[zi3,zhX]
theorem z36{v:VN}{k:RN}{n:Nat}(hv:v.raw n=true)(hk:k.raw n=true):(Q0 v k).raw (n+n+1)=true:=by
 refine z7i ?_
 have hk':=z0U hk
 cases ev:toV v with
 |none=>exact Nat.zero_le _
 |some a=>
  cases ew:toO k with
  |none=>exact Nat.zero_le _
  |some b=>
   rw[ew]at hk'
   have hk':b.sz≤n:=hk'
   obtain⟨x,y,z⟩:=z1p ev hv
   have m1:=K.sz_mul a.x b
   have m2:=K.sz_mul a.y b
   have m3:=K.sz_mul a.z b
   show max (a.x*b).sz (max (a.y*b).sz (a.z*b).sz)≤n+n+1
   omega
theorem z6n{v w:VN}{n:Nat}(hv:v.raw n=true)(hw:w.raw n=true):(z3y v w).raw (6*n+5)=true:=by
 refine z19 ?_
 cases ev:toV v with
 |none=>exact Nat.zero_le _
 |some a=>
  cases ew:toV w with
  |none=>exact Nat.zero_le _
  |some b=>
   obtain⟨x,y,z⟩:=z1p ev hv
   obtain⟨x',y',z'⟩:=z1p ew hw
   have m1:=K.sz_mul a.x b.x
   have m2:=K.sz_mul a.y b.y
   have m3:=K.sz_mul a.z b.z
   have m4:=K.sz_add (a.x*b.x) (a.y*b.y)
   have m5:=K.sz_add (a.x*b.x+a.y*b.y) (a.z*b.z)
   show(a.x*b.x+a.y*b.y+a.z*b.z).sz≤6*n+5
   omega
theorem zbh(v w:VN)(hv:v.raw 10000=true)(hw:w.raw 10000=true):PCall P 149 [v.c,w.c] (z3y v w).c:=by
 have hm:(z5c v w).raw 100000=true:=by
  refine z7i ?_
  cases ev:toV v with
  |none=>exact Nat.zero_le _
  |some a=>
   cases ew:toV w with
   |none=>exact Nat.zero_le _
   |some b=>
    obtain⟨x,y,z⟩:=z1p ev hv
    obtain⟨x',y',z'⟩:=z1p ew hw
    have m1:=K.sz_mul a.x b.x
    have m2:=K.sz_mul a.y b.y
    have m3:=K.sz_mul a.z b.z
    show max (a.x*b.x).sz (max (a.y*b.y).sz (a.z*b.z).sz)≤100000
    omega
 obtain⟨h1,h2,h3⟩:=z0z.1 hm
 have h:=zlt v w (VN.raw_mono hv (by decide)) (VN.raw_mono hw (by decide)) (RN.raw_mono h1 (by decide)) (RN.raw_mono h2 (by decide)) (RN.raw_mono (zju h1 h2) (by decide)) (RN.raw_mono h3 (by decide))
 rwa[zca]at h
theorem zsb(u v w:VN)(a:VN.raw 1000 v=true)(d:VN.raw 1000 w=true)(e:VN.raw 10000 u=true)(f:VN.raw 10000 (z3Z v w)=true):PCall P 175 [u.c,v.c,w.c] (RN.c (z3y u (z3Z v w))):=
 j3 (.r 7 (zfN v w a d) (.r 8 (zbh u (z3Z v w) e f) (.c (lq 10 10) .nil))) (by kernel_rfl)
noncomputable def W8(u v w:VN):RN:=z3y u (z3Z v w)
theorem zrj(u v w:VN)(hu:u.raw 1000=true)(hv:v.raw 1000=true)(hw:w.raw 1000=true):PCall P 175 [u.c,v.c,w.c] (W8 u v w).c:=
 zsb u v w hv hw (VN.raw_mono hu (by decide)) (VN.raw_mono (zbW hv hw) (by decide))
structure Q4 where
 a:Int
 b:Int
 c:Int
 d:Int
namespace Q4
def mul(x y:Q4):Q4:=⟨x.a*y.a+2*x.b*y.b+3*x.c*y.c+6*x.d*y.d,x.a*y.b+x.b*y.a+3*x.c*y.d+3*x.d*y.c,x.a*y.c+x.c*y.a+2*x.b*y.d+2*x.d*y.b,x.a*y.d+x.d*y.a+x.b*y.c+x.c*y.b⟩
def Sm(n:Nat)(x:Q4):Prop:=By4 n x.a x.b x.c x.d
end Q4
def oq(A:Q4)(d:Int):K:=K.of A.a A.b A.c A.d d
theorem zdn{A B:Q4}{d e:Int}(hd:d≠0)(he:e≠0):oq A d*oq B e=oq (Q4.mul A B) (d*e):=K.mul_of hd he
def qK(x:K):Q4:=⟨x.c0,x.c1,x.c2,x.c3⟩
def cj1(y:Q4):Q4:=⟨y.a,-y.b,y.c,-y.d⟩
def cj2(y:Q4):Q4:=⟨y.a,y.b,-y.c,-y.d⟩
def cj3(y:Q4):Q4:=⟨y.a,-y.b,-y.c,y.d⟩
def z5g(y:Q4):Q4:=Q4.mul (Q4.mul (cj1 y) (cj2 y)) (cj3 y)
theorem zfC(y:Q4):(Q4.mul y (z5g y)).b=0∧(Q4.mul y (z5g y)).c=0∧(Q4.mul y (z5g y)).d=0:=by
 obtain⟨a,b,c,d⟩:=y
 refine⟨?_,?_,?_⟩
 · show a*_+b*_+3*c*_+3*d*_=0
   simp only[z5g,Q4.mul,cj1,cj2,cj3]
   grind
 · show a*_+c*_+2*b*_+2*d*_=0
   simp only[z5g,Q4.mul,cj1,cj2,cj3]
   grind
 · show a*_+d*_+b*_+c*_=0
   simp only[z5g,Q4.mul,cj1,cj2,cj3]
   grind
theorem zam{A:Q4}(h:oq A 1=0):A.a=0∧A.b=0∧A.c=0∧A.d=0:=by
 obtain⟨s,_,h0,h1,h2,h3,_⟩:=K.of_spec A.a A.b A.c A.d (d:=1) (by decide)
 have e:K.of A.a A.b A.c A.d 1=0:=h
 rw[e]at h0 h1 h2 h3
 exact⟨h0.trans (Int.mul_zero s),h1.trans (Int.mul_zero s),h2.trans (Int.mul_zero s),h3.trans (Int.mul_zero s)⟩
theorem zaj{y:K}(h0:y.c0=0)(h1:y.c1=0)(h2:y.c2=0)(h3:y.c3=0):y=0:=by
 refine K.cross ?_ ?_ ?_ ?_
 · rw[h0,Int.zero_mul];exact(Int.zero_mul y.d).symm
 · rw[h1,Int.zero_mul];exact(Int.zero_mul y.d).symm
 · rw[h2,Int.zero_mul];exact(Int.zero_mul y.d).symm
 · rw[h3,Int.zero_mul];exact(Int.zero_mul y.d).symm
theorem za5{x y:K}(hx:x≠0)(hy:y≠0):x*y≠0:=fun e=>by
 have:K.sgn (x*y)=0:=K.sgn_zero.2 e
 rw[K.sgn_mul]at this
 rcases Int.mul_eq_zero.1 this with h|h
 · exact hx (K.sgn_zero.1 h)
 · exact hy (K.sgn_zero.1 h)
theorem zf7(y:Q4):oq (Q4.mul y (z5g y)) 1=oq y 1*((oq (cj1 y) 1*oq (cj2 y) 1)*oq (cj3 y) 1):=by
 have o:(1:Int)≠0:=by decide
 have e1:oq (cj1 y) 1*oq (cj2 y) 1=oq (Q4.mul (cj1 y) (cj2 y)) 1:=zdn o o
 have e2:oq (Q4.mul (cj1 y) (cj2 y)) 1*oq (cj3 y) 1=oq (z5g y) 1:=zdn o o
 have e3:oq y 1*oq (z5g y) 1=oq (Q4.mul y (z5g y)) 1:=zdn o o
 rw[e1,e2,e3]
theorem zdx{y:K}(h:y≠0):(Q4.mul (qK y) (z5g (qK y))).a≠0:=by
 intro e
 obtain⟨h1,h2,h3⟩:=zfC (qK y)
 have z:oq (Q4.mul (qK y) (z5g (qK y))) 1=0:=by
  unfold oq
  rw[e,h1,h2,h3];kernel_rfl
 rw[zf7]at z
 have n0:oq (qK y) 1≠0:=fun z=>by obtain⟨a,b,c,d⟩:=zam z;exact h (zaj a b c d)
 have n1:oq (cj1 (qK y)) 1≠0:=fun z=>by obtain⟨a,b,c,d⟩:=zam z;exact h (zaj a (Int.neg_eq_zero.1 b) c (Int.neg_eq_zero.1 d))
 have n2:oq (cj2 (qK y)) 1≠0:=fun z=>by obtain⟨a,b,c,d⟩:=zam z;exact h (zaj a b (Int.neg_eq_zero.1 c) (Int.neg_eq_zero.1 d))
 have n3:oq (cj3 (qK y)) 1≠0:=fun z=>by obtain⟨a,b,c,d⟩:=zam z;exact h (zaj a (Int.neg_eq_zero.1 b) (Int.neg_eq_zero.1 c) d)
 exact za5 n0 (za5 (za5 n1 n2) n3) z
theorem Q4.Sm.mono{n m:Nat}{x:Q4}(h:Q4.Sm n x)(k:n≤m):Q4.Sm m x:=⟨h.1.mono k,h.2.1.mono k,h.2.2.1.mono k,h.2.2.2.mono k⟩
theorem Q4.Sm.mul{n m:Nat}{x y:Q4}(h:Q4.Sm n x)(k:Q4.Sm m y):Q4.Sm (n+m+4) (Q4.mul x y):=by
 obtain⟨h0,h1,h2,h3⟩:=h
 obtain⟨k0,k1,k2,k3⟩:=k
 have p: ∀{a b:Int},By n a→By m b→By (n+m+1) (a*b):=fun u v=>(u.mul v).mono (by omega)
 have q: ∀{a b:Int} (f:Int),-100≤f∧f≤100→By n a→By m b→By (n+m+1) (f*a*b):=fun f hf u v=>by
  have:=(u.mul v).k hf
  rwa[←Int.mul_assoc]at this
 have s: ∀{a b c d:Int},By (n+m+1) a→By (n+m+1) b→By (n+m+1) c→By (n+m+1) d→By (n+m+4) (a+b+c+d):=fun a b c d=>
  ((a.add b).add (c.mono (by omega))).add (d.mono (by omega))
 exact⟨s (p h0 k0) (q 2 (by decide) h1 k1) (q 3 (by decide) h2 k2) (q 6 (by decide) h3 k3),s (p h0 k1) (p h1 k0) (q 3 (by decide) h2 k3) (q 3 (by decide) h3 k2),
  s (p h0 k2) (p h2 k0) (q 2 (by decide) h1 k3) (q 2 (by decide) h3 k1),s (p h0 k3) (p h3 k0) (p h1 k2) (p h2 k1)⟩
theorem zjy(v w:VN)(hv:v.raw 10000=true)(hw:w.raw 10000=true):PCall P 173 [v.c,w.c] (z3y v w).c:=by
 have hv':=VN.raw_mono hv (show 10000≤1000000 by decide)
 have hw':=VN.raw_mono hw (show 10000≤1000000 by decide)
 unfold z3y
 cases ev:toV v with
 |none=>exact zko v w (z3a ev) hv'
 |some a=>
  cases ew:toV w with
  |none=>exact zj8 v w (zas ev) (z3a ew) hv' hw'
  |some b=>
   obtain⟨x,y,z⟩:=z1p ev hv
   obtain⟨x',y',z'⟩:=z1p ew hw
   have m1:=K.sz_mul a.x b.x
   have m2:=K.sz_mul a.y b.y
   have m3:=K.sz_mul a.z b.z
   have m4:=K.sz_add (a.x*b.x) (a.y*b.y)
   rw[zbJ ev,zbJ ew]
   exact zky _ _ _ _ _ _ (by omega) (by omega) (by omega) (by omega) (by omega) (by omega) (by omega) (by omega) (by omega) (by omega) (by omega) (by omega) (by omega) (by omega) (by omega) (by omega)
def zue(z:Int):Int×Bool:=if-9223372036854775808≤z∧z<9223372036854775808 then(z,true)else(0,false)
theorem i64_in{z:Int}(h: -9223372036854775808≤z∧z<9223372036854775808):zue z=(z,true):=if_pos h
theorem zkw(i:Int){n:Nat}(h:1≤n):(kN (z5o i)).raw n=true:=z3q (Nat.le_trans (zio i) h)
theorem zja(i:Int){n:Nat}(h:1≤n):(kN (z9n i)).raw n=true:=z3q (Nat.le_trans (zix i) h)
theorem zlF(x:K)(h1:(decide (x.c1<0)==false&&(bytesOf x.c1.natAbs=={data:= #[]}&&true))=true)(h2:(decide (x.c2<0)==false&&(bytesOf x.c2.natAbs=={data:= #[]}&&true))=true)(a:x.sz≤1000000):PCall P 219 [Z0 x] (.lit (.bool (decide (x.c3<0)==false&&(bytesOf x.c3.natAbs=={data:= #[]}&&true)))):=
 j3 (.r 3 (z16 x a) (.c (bq 1 4) (.b 11 h1 (.c (bq 2 4) (.b 18 h2 (.c (bq 3 4) .nil)))))) (by kernel_rfl)
theorem ziV(x:K)(h1:(decide (x.c1<0)==false&&(bytesOf x.c1.natAbs=={data:= #[]}&&true))=true)(h2:(decide (x.c2<0)==false&&(bytesOf x.c2.natAbs=={data:= #[]}&&true))=false)(a:x.sz≤1000000):PCall P 219 [Z0 x] (.lit (.bool false)):=
 j3 (.r 3 (z16 x a) (.c (bq 1 4) (.b 11 h1 (.c (bq 2 4) (.b 18 h2 .nil))))) (by kernel_rfl)
theorem zmj(x:K)(h1:(decide (x.c1<0)==false&&(bytesOf x.c1.natAbs=={data:= #[]}&&true))=false)(a:x.sz≤1000000):PCall P 219 [Z0 x] (.lit (.bool false)):=
 j3 (.r 3 (z16 x a) (.c (bq 1 4) (.b 11 h1 .nil))) (by kernel_rfl)
theorem zuf{a b:Int}(h:a≠b):(a==b)=false:=by
 cases e:a==b
 · rfl
 · exact absurd (beq_iff_eq.1 e) h
def zkk(x:K):Bool:=decide (x.c1=0∧x.c2=0∧x.c3=0)
theorem z6O{z:Int}:(decide (z<0)==false&&(bytesOf z.natAbs==(⟨#[]⟩:ByteArray)&&true))=decide (z=0):=by
 by_cases h:z=0
 · subst h;kernel_rfl
 · rw[decide_eq_false h]
   have:(bytesOf z.natAbs==(⟨#[]⟩:ByteArray))=false:=by
    rw[zdU]
    refine decide_eq_false fun e=>?_
    have:=Z9.1 (congrArg ByteArray.size e)
    omega
   rw[this,Bool.false_and,Bool.and_false]
theorem znV(x:K)(h:x.sz≤1000000):PCall P 219 [(kN x).c] (.lit (.bool (zkk x))):=by
 rw[z1C]
 by_cases h1:x.c1=0
 · by_cases h2:x.c2=0
   · refine(zlF x (by rw[z6O];exact decide_eq_true h1) (by rw[z6O];exact decide_eq_true h2) h).eq ?_
     rw[z6O]
     congr 2
     unfold zkk
     rw[decide_eq_decide];omega
   · rw[show zkk x=false from decide_eq_false (by omega)]
     exact ziV x (by rw[z6O];exact decide_eq_true h1) (by rw[z6O];exact decide_eq_false h2) h
 · rw[show zkk x=false from decide_eq_false (by omega)]
   exact zmj x (by rw[z6O];exact decide_eq_false h1) h
theorem zsZ(i:Int):PCall P 34 [j5 i] (kN (z5o i)).c:=by rw[z1C];exact z8r i
theorem ztf(i:Int):PCall P 36 [j5 i] (kN (z9n i)).c:=by rw[z1C];exact zeV i
theorem zqL(l:List (Int×Int))(hl:l.length<2^30):PCall P 181 [rdV l,.lit (.func (.func 182) #[] #[])] (.lit (.bool (!l.all rdP))):=
 (zqK l hl).eq (by rw[zde])
noncomputable def X7(i:Int):VN:=⟨oN 1,kN (z5o i),kN (z9n i)⟩
theorem zaT(i:Int):PCall P 143 [j5 i] (X7 i).c:=zoM i (by decide)
def vnL(v:VN):List CV:=v.x.l++(v.y.l++v.z.l)
def vnM(v:VN):List MV:=own (vnL v)
theorem zsi(l:List (Int×Int))(h1:decide ((↑l.length:Int)≤48)=true)(h2:(!l.all rdP)=true)(a:l.length<2^30):PCall P 117 [rdV l] (.lit (.bool false)):=
 j3 (.b 4 h1 (.r 6 ((zqL l a).eqB h2) .nil)) (by kernel_rfl)
theorem zqS(l:List (Int×Int))(h1:decide ((↑l.length:Int)≤48)=true)(h2:(!l.all rdP)=false)(a:l.length<2^30):PCall P 117 [rdV l] (.lit (.bool true)):=
 j3 (.b 4 h1 (.r 6 ((zqL l a).eqB h2) .nil)) (by kernel_rfl)
theorem zrO(l:List (Int×Int))(h1:decide ((↑l.length:Int)≤48)=false):PCall P 117 [rdV l] (.lit (.bool false)):=
 j3 (.b 4 h1 .nil) (by kernel_rfl)
theorem zom(i:Int)(a:(-9223372036854775808:Int)≤1∧(1:Int)≤9223372036854775807):PCall P 166 [j5 i] (z5f (oN (1:Int)) (kN (z5o i)) (kN (z9n i))):=
 j3 (.r 1 (zgv (1:Int) a) (.r 3 (zsZ i) (.r 5 (ztf i) (.c (lq 30 30) .nil)))) (by kernel_rfl)
theorem zpL(m:VN)(i:Int)(h1:(m.ok)=true)(a:VN.raw 1000000 m=true)(d:VN.raw 10000 m=true)(e:VN.raw 10000 (X7 i)=true):PCall P 111 [m.c,j5 i] (.tup [RN.c (z3y m (X7 i)),.lit (.int .i64 0)]):=
 j3 (.r 4 ((zek m a).eqB h1) (.r 9 (zaT i) (.r 10 (zbh m (X7 i) d e) (.c (lq 10 10) .nil)))) (by kernel_rfl)
theorem zpZ(m:VN)(i:Int)(h1:(m.ok)=false)(a:VN.raw 1000000 m=true):PCall P 111 [m.c,j5 i] (.tup [.agg U6,.lit (.int .i64 1)]):=
 j3 (.r 4 ((zek m a).eqB h1) (.c (lq 10 10) .nil)) (by kernel_rfl)
theorem z3v(l:List (Int×Int))(hl:l.length<2^30):PCall P 117 [rdV l] (.lit (.bool (z3t l))):=by
 have e:decide ((l.length:Int)≤48)=decide (l.length≤48):=by rw[decide_eq_decide];omega
 unfold z3t
 rw[←e]
 cases h1:decide ((l.length:Int)≤48)
 · exact zrO l h1
 · cases h2:l.all rdP
   · exact(zsi l h1 (by rw[h2];rfl) hl).eq (by rw[show(l.all fun x=>decide (-10000≤x.2∧x.2≤10000))=false from h2];rfl)
   · exact(zqS l h1 (by rw[h2];rfl) hl).eq (by rw[show(l.all fun x=>decide (-10000≤x.2∧x.2≤10000))=true from h2];rfl)
theorem z2V(i:Int):(X7 i).raw 1=true:=z0z.2 ⟨zkN,zkw i (by decide),zja i (by decide)⟩
theorem zqb(i:Int):PCall P 166 [j5 i] (X7 i).c:=zom i (by decide)
noncomputable def X4(m:VN)(i:Int):RN×Int:=if m.ok then(z3y m (X7 i),0)else(.zero,1)
theorem zaG(m:VN)(i:Int)(hm:m.raw 10000=true):PCall P 111 [m.c,j5 i] (.tup [(X4 m i).1.c,j5 (X4 m i).2]):=by
 have h6:=VN.raw_mono hm (show 10000≤1000000 by decide)
 have hr:=VN.raw_mono (z2V i) (show 1≤10000 by decide)
 unfold X4
 cases h:m.ok
 · exact zpZ m i h h6
 · exact zpL m i h h6 hm hr
theorem zhR(l:List (Int×Int))(m:VN)(g:z3t l=true)(g2:m.ok=true)(a:l.length<2^30)(d:VN.raw 1000000 m=true){R:CV→Prop}(hR:Ok P 62 (loopHead P 62 0) ⟨J1 37 [(3,.ptr 0 0),(6,.cv (CV.lit (Value.slice none 0 0))),(17,.cv (.lst l.length (flat rdL l))),(18,.cv (.lit (.int .i64 (↑l.length:Int)))),(19,.cv (.lit (.int .i64 0)))],[some (vnM m)]⟩ (.of R)):Y3 P 62 [rdV l,m.c] R:=
 Z6 (keep:=[3,6,17,18,19]) (σ:=[0]) (.r 4 ((z3v l a).eqB g) (.r 8 ((zek m d).eqB g2) (.o 16 .stop .nil))) (by kernel_rfl) rfl hR (.cons (CvL.map_cv _) .nil)
theorem zn6(l:List (Int×Int))(m:VN)(g:z3t l=false)(a:l.length<2^30):PCall P 62 [rdV l,m.c] (.tup [CV.lit (Value.slice none 0 0),.lit (.int .i64 1)]):=
 j3 (.r 4 ((z3v l a).eqB g) .nil) (by kernel_rfl)
theorem zlM(l:List (Int×Int))(m:VN)(g:z3t l=true)(g2:m.ok=false)(a:l.length<2^30)(d:VN.raw 1000000 m=true):PCall P 62 [rdV l,m.c] (.tup [CV.lit (Value.slice none 0 0),.lit (.int .i64 1)]):=
 j3 (.r 4 ((z3v l a).eqB g) (.r 8 ((zek m d).eqB g2) .nil)) (by kernel_rfl)
theorem zjO(l:List (Int×Int))(m:VN)(k mi mo:Int)(h1:decide (k<(↑l.length:Int))=true)(a:(-9223372036854775808:Int)≤mo∧mo≤9223372036854775807)(d:VN.raw 10000 m=true)(e:VN.raw 10000 (X7 mi)=true)(f:RN.raw 1000000 (oN mo)=true)(g:RN.raw 1000000 (z3y m (X7 mi))=true)(o1:(0:Int)≤k∧k<(↑l.length:Int))(o2:List.take 2 (List.drop (k.toNat*2) (flat rdL l))=[.lit (.int .i64 mi),.lit (.int .i64 mo)]){R:Goal}(hn:j7 R.n [0,7]=true)(hR:Ok P 62 (loopHead P 62 0) ⟨J1 37 [(3,.ptr 0 0),(6,.sl (0+1) 0 1 10),(17,.cv (.lst l.length (flat rdL l))),(18,.cv (.lit (.int .i64 (↑l.length:Int)))),(19,.cv (.lit (.int .i64 (i64.wrap (k+1)))))],[some (vnM m),some (own ((z2E (oN mo) (z3y m (X7 mi)))).l)]⟩ R):Ok P 62 (loopHead P 62 0) ⟨J1 37 [(3,.ptr 0 0),(6,.cv (CV.lit (Value.slice none 0 0))),(17,.cv (rdV l)),(18,.cv (j5 (↑l.length:Int))),(19,.cv (j5 k))],[some (vnM m)]⟩ R:=
 z07 (keep:=[3,6,17,18,19]) (σ:=[0,7]) (.b 2 h1 (.c o1 (.c o2 (.c (eqn 2) (.c (lq 2 2) (.c (zdk mo a) (.c (zaT mi) (.c (zbh m (X7 mi) d e) (.c (zaB (oN mo) (z3y m (X7 mi)) f g) (.c (lq 120 1099511627776) (.c (lq 1 1099511627776) (.c (show 0<1 from by decide) (.c (eqn 10) (.o 4 (.r (.agg [.lit (.int .i64 mi),.lit (.int .i64 mo)])) (.o 10 (.r (RN.c (oN mo))) (.o 14 (.r (z5f (X7 mi).x (X7 mi).y (X7 mi).z)) (.o 15 (.r (RN.c (z3y m (X7 mi)))) (.o 16 (.r (RN.c (z2E (oN mo) (z3y m (X7 mi))))) (.o 22 .stop .nil))))))))))))))))))) (by kernel_rfl) rfl hn hR (.cons (CvL.map_cv _) (.cons (CvL.map_cv _) .nil))
theorem zkM(l:List (Int×Int))(m:VN)(k _mi _mo:Int)(h1:decide (k<(↑l.length:Int))=false){R:Goal}(hR:R.c (.tup [CV.lit (Value.slice none 0 0),.lit (.int .i64 0)])):Ok P 62 (loopHead P 62 0) ⟨J1 37 [(3,.ptr 0 0),(6,.cv (CV.lit (Value.slice none 0 0))),(17,.cv (rdV l)),(18,.cv (j5 (↑l.length:Int))),(19,.cv (j5 k))],[some (vnM m)]⟩ R:=
 okT (.b 2 h1 .nil) (by kernel_rfl) hR
theorem zmg(l:List (Int×Int))(m:VN)(k mi mo:Int)(c:Nat)(out:List CV)(h1:decide (k<(↑l.length:Int))=true)(a:(-9223372036854775808:Int)≤mo∧mo≤9223372036854775807)(d:VN.raw 10000 m=true)(e:VN.raw 10000 (X7 mi)=true)(f:RN.raw 1000000 (oN mo)=true)(g:RN.raw 1000000 (z3y m (X7 mi))=true)(o1:(0:Int)≤k∧k<(↑l.length:Int))(o2:List.take 2 (List.drop (k.toNat*2) (flat rdL l))=[.lit (.int .i64 mi),.lit (.int .i64 mo)])(o9:(c+1)*120≤1099511627776)(o10:c+1≤1099511627776)(o11:(own out).length=c*10)(o12:zb7 (own ((z2E (oN mo) (z3y m (X7 mi)))).l))(o15:CvL (own out++(own ((z2E (oN mo) (z3y m (X7 mi)))).l))){R:Goal}(hn:j7 R.n [0,8]=true)(hR:Ok P 62 (loopHead P 62 0) ⟨J1 37 [(3,.ptr 0 0),(6,.sl (0+1) 0 (c+1) 10),(17,.cv (.lst l.length (flat rdL l))),(18,.cv (.lit (.int .i64 (↑l.length:Int)))),(19,.cv (.lit (.int .i64 (i64.wrap (k+1)))))],[some (vnM m),some (own out++(own ((z2E (oN mo) (z3y m (X7 mi)))).l))]⟩ R):Ok P 62 (loopHead P 62 0) ⟨J1 37 [(3,.ptr 0 0),(6,.sl 1 0 c 10),(17,.cv (rdV l)),(18,.cv (j5 (↑l.length:Int))),(19,.cv (j5 k))],[some (vnM m),some (own out)]⟩ R:=
 z07 (keep:=[3,6,17,18,19]) (σ:=[0,8]) (.b 2 h1 (.c o1 (.c o2 (.c (eqn 2) (.c (lq 2 2) (.c (zdk mo a) (.c (zaT mi) (.c (zbh m (X7 mi) d e) (.c (zaB (oN mo) (z3y m (X7 mi)) f g) (.c o9 (.c o10 (.c o11 (.c o12 (.c (eqn 10) (.o 4 (.r (.agg [.lit (.int .i64 mi),.lit (.int .i64 mo)])) (.o 10 (.r (RN.c (oN mo))) (.o 14 (.r (z5f (X7 mi).x (X7 mi).y (X7 mi).z)) (.o 15 (.r (RN.c (z3y m (X7 mi)))) (.o 16 (.r (RN.c (z2E (oN mo) (z3y m (X7 mi))))) (.o 22 .stop .nil)))))))))))))))))))) (by kernel_rfl) rfl hn hR (.cons (CvL.map_cv _) (.cons o15 .nil))
theorem zjs(l:List (Int×Int))(m:VN)(k _mi _mo:Int)(c:Nat)(out:List CV)(h1:decide (k<(↑l.length:Int))=false)(o1:List.take (c*10) (List.drop 0 (own out))=List.map MV.cv out){R:Goal}(hR:R.c (.tup [.lst c out,.lit (.int .i64 0)])):Ok P 62 (loopHead P 62 0) ⟨J1 37 [(3,.ptr 0 0),(6,.sl 1 0 c 10),(17,.cv (rdV l)),(18,.cv (j5 (↑l.length:Int))),(19,.cv (j5 k))],[some (vnM m),some (own out)]⟩ R:=
 okT (.b 2 h1 (.c o1 (.o 6 (.r (CV.lit undef) [out]) .nil))) (by kernel_rfl) hR
theorem znR(m:VN)(i:Int)(h1:(m.ok)=true)(a:VN.raw 1000000 m=true)(d:VN.raw 10000 m=true)(e:VN.raw 10000 (X7 i)=true):PCall P 112 [m.c,j5 i] (.tup [RN.c (z3y m (X7 i)),.lit (.int .i64 0)]):=
 j3 (.r 4 ((zaa m a).eqB h1) (.r 9 (zqb i) (.r 10 (zjy m (X7 i) d e) (.c (lq 10 10) .nil)))) (by kernel_rfl)
theorem zoG(m:VN)(i:Int)(h1:(m.ok)=false)(a:VN.raw 1000000 m=true):PCall P 112 [m.c,j5 i] (.tup [.agg U6,.lit (.int .i64 1)]):=
 j3 (.r 4 ((zaa m a).eqB h1) (.c (lq 10 10) .nil)) (by kernel_rfl)
theorem z1l{P:Program}{f:FuncId}{args:List CV}{c:CV}(h:PCall P f args (.tup [.lit (.slice none 0 0),c])):PCall P f args (.tup [.lst 0 [],c]):=by
 intro Im w vs him hrep
 refine(h Im w vs him hrep).mono ?_
 rintro e w' ⟨y,v,Im',rfl,rfl,hv,h1,h2,h3,h4⟩
 refine⟨y,_,Im',rfl,rfl,?_,h1,h2,h3,h4⟩
 unfold CV.rep at hv ⊢
 obtain⟨ys,h5,h6⟩:=hv
 refine⟨ys,h5,?_⟩
 unfold CV.repL at h6 ⊢
 obtain⟨y0,ys0,h7,h8,h9⟩:=h6
 refine⟨y0,ys0,h7,?_,h9⟩
 unfold CV.rep at h8 ⊢
 exact⟨none,0,h8,Nat.le_refl _,.inl ⟨rfl,rfl⟩⟩
noncomputable def z6I(m:VN)(x:Int×Int):RN:=z2E (oN x.2) (z3y m (X7 x.1))
noncomputable def z1W(l:List (Int×Int))(m:VN):List RN×Int:=if z3t l&&m.ok then(l.map (z6I m),0)else([],1)
theorem z6T{l:List (Int×Int)}(h:z3t l=true):l.length≤48∧ ∀k (hk:k<l.length),-10000≤l[k].2∧l[k].2≤10000:=by
 unfold z3t at h
 simp only[Bool.and_eq_true,decide_eq_true_eq,List.all_eq_true]at h
 exact⟨h.1,fun k hk=>h.2 _ (List.getElem_mem hk)⟩
theorem z69{n:Int}(h: -10000≤n∧n≤10000):(K.ofInt n).sz≤2:=K.sz_int n (by decide) (by omega)
theorem zaq(m:VN)(l:List (Int×Int)):flat RN.l (l.map (z6I m))=flat (fun x=>(z6I m x).l) l:=by
 induction l with
 |nil=>rfl
 |cons x l ih=>rw[List.map_cons,z2e,z2e,ih]
theorem zcR(a b:List CV):CvL (own a++own b):=by rw[show own a++own b=own (a++b)from(z9L a b).symm];exact CvL.map_cv _
theorem zsk(l:List (Int×Int))(m:VN)(g:z3t l=true)(g2:m.ok=true)(hm:m.raw 10000=true):PCall P 62 [rdV l,m.c] (.tup [nmV (l.map (z6I m)),j5 0]):=by
 have h6:=VN.raw_mono hm (show 10000≤1000000 by decide)
 obtain⟨hl,hb⟩:=z6T g
 have hr: ∀i,(X7 i).raw 10000=true:=fun i=>VN.raw_mono (z2V i) (by decide)
 have hd: ∀i,(z3y m (X7 i)).raw 1000000=true:=fun i=>RN.raw_mono (z6n hm (hr i)) (by decide)
 cases l with
 |nil=>
  refine z1l (zhR [] m g g2 (by decide) h6 (R := (· = _)) (zkM [] m 0 0 0 rfl rfl))
 |cons x t=>
  generalize hx:x::t=l at*
  have hne:l≠[]:=by rw[←hx];exact List.cons_ne_nil _ _
  refine zhR l m g g2 (by omega) h6 (R := (· = _)) ?_
  refine z7X (s:=10) l (fun x=>(z6I m x).l) (fun _=>rfl) (fun k o=>Ok P 62 (loopHead P 62 0) (match o with
   |none=>⟨J1 37 [(3,.ptr 0 0),(6,.cv (.lit (.slice none 0 0))),(17,.cv (rdV l)),(18,.cv (j5 l.length)),(19,.cv (j5 k))],[some (vnM m)]⟩
   | some (c, out) => ⟨J1 37 [(3, .ptr 0 0), (6, .sl 1 0 c 10), (17, .cv (rdV l)), (18, .cv (j5 l.length)), (19, .cv (j5 k))], [some (vnM m), some (own out)]⟩) (.of (· = .tup [nmV (l.map (z6I m)), j5 0]))) ?_ ?_ hne ?_
  · intro k hk h
    have b:=hb k hk
    refine zjO l m k l[k].1 l[k].2 (decide_eq_true (by omega)) (by omega) hm (hr _) (z55 (Nat.le_trans (z69 b) (by decide))) (hd _) (by omega) (z0O z1a hk) rfl ?_
    rw[w64 (by omega)]
    exact h
  · intro k hk c out hc ho h
    have b:=hb k hk
    refine zmg l m k l[k].1 l[k].2 c out (decide_eq_true (by omega)) (by omega) hm (hr _) (z55 (Nat.le_trans (z69 b) (by decide))) (hd _) (by omega) (z0O z1a hk) (by omega) (by omega) (by simp[own,ho]) ?_ ?_ rfl ?_
    · simp[zb7,MV.one,own,RN.l]
    · exact zcR _ _
    · rw[w64 (by omega),show ∀a b:List CV,own a++own b=own (a++b)from fun a b=>(z9L a b).symm]
      exact h
  · refine zjs l m l.length 0 0 l.length (flat (fun x=>(z6I m x).l) l) (decide_eq_false (by omega)) ?_ ?_
    · rw[List.drop_zero,List.take_of_length_le (by simp[own,z1r (f:=fun x=>(z6I m x).l) (s:=10) (fun _=>rfl)])];rfl
    · show CV.tup _=CV.tup _
      unfold nmV
      rw[zaq,List.length_map]
theorem zaC(l:List (Int×Int))(m:VN)(hl:l.length<2^30)(hm:m.raw 10000=true):PCall P 62 [rdV l,m.c] (.tup [nmV (z1W l m).1,j5 (z1W l m).2]):=by
 unfold z1W
 cases g:z3t l
 · exact z1l (zn6 l m g hl)
 cases g2:m.ok
 · exact z1l (zlM l m g g2 hl (VN.raw_mono hm (by decide)))
 · exact zsk l m g g2 hm
theorem z4x(m:VN)(i:Int)(hm:m.raw 10000=true):PCall P 112 [m.c,j5 i] (.tup [(X4 m i).1.c,j5 (X4 m i).2]):=by
 have h6:=VN.raw_mono hm (show 10000≤1000000 by decide)
 have hr:=VN.raw_mono (z2V i) (show 1≤10000 by decide)
 unfold X4
 cases h:m.ok
 · exact zoG m i h h6
 · exact znR m i h h6 hm hr
theorem zil(l:List (Int×Int))(m:VN)(g:z3t l=true)(g2:m.ok=true)(a:l.length<2^30)(d:VN.raw 1000000 m=true){R:CV→Prop}(hR:Ok P 113 (loopHead P 113 0) ⟨J1 46 [(0,.cv (.lst l.length (flat rdL l))),(3,.ptr 0 0),(6,.cv (CV.lit (Value.slice none 0 0))),(7,.cv (.lit (.int .i64 0)))],[some (vnM m)]⟩ (.of R)):Y3 P 113 [rdV l,m.c] R:=
 Z6 (keep:=[0,3,6,7]) (σ:=[0]) (.r 4 ((z3S l a).eqB g) (.r 8 ((zaa m d).eqB g2) (.o 14 .stop .nil))) (by kernel_rfl) rfl hR (.cons (CvL.map_cv _) .nil)
theorem zjJ(l:List (Int×Int))(m:VN)(g:z3t l=false)(a:l.length<2^30):PCall P 113 [rdV l,m.c] (.tup [CV.lit (Value.slice none 0 0),.lit (.int .i64 1)]):=
 j3 (.r 4 ((z3S l a).eqB g) .nil) (by kernel_rfl)
theorem zlV(l:List (Int×Int))(m:VN)(g:z3t l=true)(g2:m.ok=false)(a:l.length<2^30)(d:VN.raw 1000000 m=true):PCall P 113 [rdV l,m.c] (.tup [CV.lit (Value.slice none 0 0),.lit (.int .i64 1)]):=
 j3 (.r 4 ((z3S l a).eqB g) (.r 8 ((zaa m d).eqB g2) .nil)) (by kernel_rfl)
theorem znn(l:List (Int×Int))(m:VN)(h1:((z1W l m).2 != 0)=true)(a:l.length<2^30)(d:VN.raw 10000 m=true):PCall P 69 [rdV l,m.c] (.tup [.agg U6,.lit (.int .i64 (z1W l m).2)]):=
 j3 (.r 5 (zaC l m a d) (.b 13 h1 (.c (lq 10 10) .nil))) (by kernel_rfl)
theorem zrN(l:List (Int×Int))(m:VN)(h1:((z1W l m).2 != 0)=false)(a:l.length<2^30)(d:VN.raw 10000 m=true)(e:(-9223372036854775808:Int)≤0∧(0:Int)≤9223372036854775807){R:CV→Prop}(hR:Ok P 69 (loopHead P 69 0) ⟨J1 35 [(4,.ptr 0 0),(8,.ptr (0+1) 0),(22,.cv (.lst (z1W l m).1.length (flat RN.l (z1W l m).1))),(23,.cv (.lit (.int .i64 (↑(z1W l m).1.length:Int)))),(24,.cv (.lit (.int .i64 0)))],[some [.cv (.lit (.bool false)),.cv (.lit (.string {data:= #[]})),.cv (.lit (.bool false)),.cv (.lit (.string {data:= #[]})),.cv (.lit (.bool false)),.cv (.lit (.string {data:= #[]})),.cv (.lit (.bool false)),.cv (.lit (.string {data:= #[]})),.cv (.lit (.bool false)),.cv (.lit (.string {data:= #[]}))],some (own ((oN (0:Int))).l)]⟩ (.of R)):Y3 P 69 [rdV l,m.c] R:=
 Z6 (keep:=[4,8,22,23,24]) (σ:=[1,4]) (.r 5 (zaC l m a d) (.b 13 h1 (.r 14 (zdk (0:Int) e) (.c (lq 10 10) (.o 20 .stop .nil))))) (by kernel_rfl) rfl hR (.cons (by simp[CvL]) (.cons (CvL.map_cv _) .nil))
theorem zsa(u v w:VN)(a:VN.raw 1000 u=true)(d:VN.raw 1000 v=true)(e:VN.raw 1000 w=true):PCall P 145 [.lst 3 (vnL u++(vnL v++vnL w))] (RN.c (W8 u v w)):=
 j3 (.c (bq 0 3) (.c (bq 1 3) (.c (bq 2 3) (.r 10 (zrj u v w a d e) (.c (lq 10 10) .nil))))) (by kernel_rfl)
end Go.Fw
