/- A part of the proof that the law returns true for every input: an executor for the model's code, and what functions of the program compute. -/
import Derived.Test.YtcafjpldfnegiaaGreatDoorB15
import Derived.Test.YtcafjpldfnegiaaGreatDoorB22
import Derived.Test.YtcafjpldfnegiaaGreatDoorB25
open Go IntKind
namespace Go.Fw
set_option maxRecDepth 100000
theorem z7U(a b:Int)(ha:SmlZ a)(hb:SmlZ b)(hs:Sml (a.natAbs+b.natAbs)):PCall P 209 [J2 a,J2 b] (J2 (a-b)):=by
 have:=zl7 a b ha (by simpa[SmlZ]using hb) (by simpa using hs)
 rw[Int.sub_eq_add_neg];exact this
theorem z4d(n:Nat):sgn false n=(n:Int):=by simp[sgn]
theorem zep {R : Goal} (hn : j7 R.n [0] = true) : ∀ (m n : Nat), n < 18446744073709551616 → m < 18446744073709551616 → R.c (J2 (Nat.gcd n m : Nat)) →
    Ok P 248 (loopHead P 248 1) ⟨J1 65 [(4,.ptr 0 0),(9,.cv (.lit (.int .u64 n))),(10,.cv (.lit (.int .u64 m)))],[some [.cv (.lit (.bool false)),.cv (.lit (.string ⟨#[]⟩))]]⟩ R:=by
 intro m
 induction m using Nat.strongRecOn with
 |_ m ih=>
  intro n hn1 hm1 hR
  by_cases h:m=0
  · subst h
    rw[Nat.gcd_zero_right]at hR
    refine zm6 n 0 (by rfl) (by omega) (by omega) (z0q (by simpa using hn1)) ?_
    rw[Int.toNat_natCast,z4d];exact hR
  · have e:((n:Int)).tmod (m:Int)=((n%m:Nat):Int):=by rw[Int.tmod_eq_emod_of_nonneg (by omega),←Int.natCast_emod]
    have hlt:=Nat.mod_lt n (by omega:0<m)
    refine zj7 n m (by simpa using h) (by omega) hn ?_
    rw[e]
    refine ih (n%m) hlt m hm1 (by omega) ?_
    have:Nat.gcd m (n%m)=Nat.gcd n m:=by rw[Nat.gcd_comm n m,Nat.gcd_rec m n,Nat.gcd_comm]
    rw[this];exact hR
theorem z8Q{x:Nat}(h:(dig B32 x).length≤2):x<18446744073709551616:=by
 have:=(J8 (by decide:2≤B32) x)
 have h2:B32^(dig B32 x).length≤B32^2:=Nat.pow_le_pow_right (by decide) h
 have h3:B32^2=18446744073709551616:=rfl
 omega
theorem zfZ {R : Goal} (hn : j7 R.n [0] = true) : ∀ (y x : Nat), Sml x → Sml y → R.c (J2 (Nat.gcd x y : Nat)) →
    Ok P 248 (loopHead P 248 0) ⟨J1 65 [(4,.ptr 0 0),(5,.cv (z0c x)),(6,.cv (z0c y))],[some [.cv (.lit (.bool false)),.cv (.lit (.string ⟨#[]⟩))]]⟩ R:=by
 intro y
 induction y using Nat.strongRecOn with
 |_ y ih=>
  intro x hx hy hR
  have hlx:=hx.dig32
  have hly:=hy.dig32
  have hstep:y≠0→R.c (J2 (Nat.gcd y (x%y):Nat))∧x%y<y:=by
   intro h
   refine⟨?_,Nat.mod_lt _ (by omega)⟩
   have:Nat.gcd y (x%y)=Nat.gcd x y:=by rw[Nat.gcd_comm x y,Nat.gcd_rec y x,Nat.gcd_comm]
   rw[this];exact hR
  by_cases h1:2<(dig B32 y).length
  · have hy0:y≠0:=by intro e;subst e;simp[z2u]at h1
    obtain⟨g1,g2⟩:=hstep hy0
    exact zkO x y (by simp;omega) hy0 (by simp only[B32]at*;omega) (by simp only[B32]at*;omega) hn (ih _ g2 y hy (hy.mono (by omega)) g1)
  · by_cases h2:2<(dig B32 x).length
    · by_cases h3:0<(dig B32 y).length
      · have hy0:y≠0:=by intro e;subst e;simp[z2u]at h3
        obtain⟨g1,g2⟩:=hstep hy0
        exact zka x y (by simp;omega) (by simp;omega) (by simp;omega) hy0 (by simp only[B32]at*;omega) (by simp only[B32]at*;omega) hn (ih _ g2 y hy (hy.mono (by omega)) g1)
      · have hy0:y=0:=(Y1 (by decide:2≤B32)).1 (by omega)
        subst hy0
        rw[Nat.gcd_zero_right]at hR
        refine zk0 x 0 (by rfl) (by simp;omega) (by rfl) (by rfl) hx ?_
        rw[z4d];exact hR
    · by_cases h3:(dig B32 y).length=0
      · have hy0:y=0:=(Y1 (by decide:2≤B32)).1 h3
        subst hy0
        rw[Nat.gcd_zero_right]at hR
        refine zkQ x 0 (by rfl) (by simp;omega) (by rfl) hx ?_
        rw[z4d];exact hR
      · have k1:=z8Q (x:=x) (by omega)
        have k2:=z8Q (x:=y) (by omega)
        exact zmp x y (by simp;omega) (by simp;omega) (by rw[beq_eq_false_iff_ne];simp only[B32]at h3;omega) k1 k2 hn (zep hn y x k1 k2 hR)
theorem z5s(a b:Int)(ha:SmlZ a)(hb:SmlZ b):PCall P 248 [J2 a,J2 b] (J2 (Nat.gcd a.natAbs b.natAbs:Nat)):=
 zmx a b ha hb (zfZ (R:= .of (fun x=>x=J2 (Nat.gcd a.natAbs b.natAbs:Nat))) rfl b.natAbs a.natAbs ha hb rfl)
theorem ziM(a:Int)(ha:SmlZ a)(hs:Sml (a.natAbs+1)):PCall P 209 [J2 a,.agg [.lit (.bool false),.lit (.string (bytesOf 1))]] (J2 (a-1)):=z7U a 1 ha (z0q (by decide)) hs
end Go.Fw
set_option maxRecDepth 10000
namespace Go.Fw
def X3(a b c d e:Int):Nat:=Nat.gcd (Nat.gcd (Nat.gcd (Nat.gcd e.natAbs a.natAbs) b.natAbs) c.natAbs) d.natAbs
theorem z7b(m a b c d e:Int):X3 (m*a) (m*b) (m*c) (m*d) (m*e)=m.natAbs*X3 a b c d e:=by
 simp only[X3,Int.natAbs_mul,Nat.gcd_mul_left]
theorem zaS(a b c d e:Int):(X3 a b c d e:Int)∣a∧(X3 a b c d e:Int)∣b∧(X3 a b c d e:Int)∣c∧(X3 a b c d e:Int)∣d∧(X3 a b c d e:Int)∣e:=by
 have h4:X3 a b c d e∣Nat.gcd (Nat.gcd (Nat.gcd e.natAbs a.natAbs) b.natAbs) c.natAbs:=Nat.gcd_dvd_left _ _
 have h3:=Nat.dvd_trans h4 (Nat.gcd_dvd_left _ _)
 have h2:=Nat.dvd_trans h3 (Nat.gcd_dvd_left _ _)
 refine⟨?_,?_,?_,?_,?_⟩<;>rw[Int.ofNat_dvd_left]
 · exact Nat.dvd_trans h2 (Nat.gcd_dvd_right _ _)
 · exact Nat.dvd_trans h3 (Nat.gcd_dvd_right _ _)
 · exact Nat.dvd_trans h4 (Nat.gcd_dvd_right _ _)
 · exact Nat.gcd_dvd_right _ _
 · exact Nat.dvd_trans h2 (Nat.gcd_dvd_left _ _)
theorem z33{a b c d e:Int}(h:e≠0):0<X3 a b c d e:=by
 have h1:0<e.natAbs:=by omega
 exact Nat.gcd_pos_of_pos_left _ (Nat.gcd_pos_of_pos_left _ (Nat.gcd_pos_of_pos_left _ (Nat.gcd_pos_of_pos_left _ h1)))
structure K where
 c0:Int
 c1:Int
 c2:Int
 c3:Int
 d:Int
 pos:0<d
 cop:X3 c0 c1 c2 c3 d=1
namespace K
theorem ext{x y:K}(h0:x.c0=y.c0)(h1:x.c1=y.c1)(h2:x.c2=y.c2)(h3:x.c3=y.c3)(hd:x.d=y.d):x=y:=by
 cases x;cases y;simp only at h0 h1 h2 h3 hd;subst h0 h1 h2 h3 hd;rfl
theorem d_ne(x:K):x.d≠0:=Int.ne_of_gt x.pos
instance:DecidableEq K:=fun x y=>
 if h:x.c0=y.c0∧x.c1=y.c1∧x.c2=y.c2∧x.c3=y.c3∧x.d=y.d then isTrue (ext h.1 h.2.1 h.2.2.1 h.2.2.2.1 h.2.2.2.2)
 else isFalse fun e=>h (by subst e;exact⟨rfl,rfl,rfl,rfl,rfl⟩)
def den(c0 c1 c2 c3 d:Int):Int:=if d<0 then-(X3 c0 c1 c2 c3 d:Int)else(X3 c0 c1 c2 c3 d:Int)
theorem den_dvd(c0 c1 c2 c3 d:Int):den c0 c1 c2 c3 d∣c0∧den c0 c1 c2 c3 d∣c1∧den c0 c1 c2 c3 d∣c2∧den c0 c1 c2 c3 d∣c3∧den c0 c1 c2 c3 d∣d:=by
 have:=zaS c0 c1 c2 c3 d
 unfold den
 split
 · simpa only[Int.neg_dvd]using this
 · exact this
theorem den_ne{c0 c1 c2 c3 d:Int}(h:d≠0):den c0 c1 c2 c3 d≠0:=by
 have:=z33 (a:=c0) (b:=c1) (c:=c2) (d:=c3) h
 unfold den
 split<;>omega
theorem den_natAbs(c0 c1 c2 c3 d:Int):(den c0 c1 c2 c3 d).natAbs=X3 c0 c1 c2 c3 d:=by unfold den;split<;>omega
theorem znM{c0 c1 c2 c3 d:Int}(h:d≠0):0<d/den c0 c1 c2 c3 d:=by
 obtain⟨k,hk⟩:=(den_dvd c0 c1 c2 c3 d).2.2.2.2
 have hne:=den_ne (c0:=c0) (c1:=c1) (c2:=c2) (c3:=c3) h
 have e:d/den c0 c1 c2 c3 d=k:=by
  conv=>lhs;lhs;rw[hk]
  exact Int.mul_ediv_cancel_left _ hne
 rw[e]
 have hg:=z33 (a:=c0) (b:=c1) (c:=c2) (d:=c3) h
 by_cases hd:d<0
 · have hs:den c0 c1 c2 c3 d<0:=by unfold den;rw[if_pos hd];omega
   rcases Int.lt_trichotomy k 0 with hk0|hk0|hk0
   · have:=Int.mul_pos_of_neg_of_neg hs hk0;omega
   · subst hk0;simp at hk;omega
   · exact hk0
 · have hs:0<den c0 c1 c2 c3 d:=by unfold den;rw[if_neg hd];omega
   rcases Int.lt_trichotomy k 0 with hk0|hk0|hk0
   · have:=Int.mul_neg_of_pos_of_neg hs hk0;omega
   · subst hk0;simp at hk;omega
   · exact hk0
theorem zr6{c0 c1 c2 c3 d:Int}(h:d≠0):X3 (c0/den c0 c1 c2 c3 d) (c1/den c0 c1 c2 c3 d) (c2/den c0 c1 c2 c3 d) (c3/den c0 c1 c2 c3 d) (d/den c0 c1 c2 c3 d)=1:=by
 obtain⟨h0,h1,h2,h3,h4⟩:=den_dvd c0 c1 c2 c3 d
 have hg:=z7b (den c0 c1 c2 c3 d) (c0/den c0 c1 c2 c3 d) (c1/den c0 c1 c2 c3 d) (c2/den c0 c1 c2 c3 d) (c3/den c0 c1 c2 c3 d) (d/den c0 c1 c2 c3 d)
 rw[Int.mul_ediv_cancel' h0,Int.mul_ediv_cancel' h1,Int.mul_ediv_cancel' h2,Int.mul_ediv_cancel' h3,Int.mul_ediv_cancel' h4,den_natAbs]at hg
 have hp:=z33 (a:=c0) (b:=c1) (c:=c2) (d:=c3) h
 exact(Nat.eq_of_mul_eq_mul_left hp (by omega:X3 c0 c1 c2 c3 d*1=_)).symm
def zero:K:=⟨0,0,0,0,1,by decide,by decide⟩
def one:K:=⟨1,0,0,0,1,by decide,by decide⟩
def of(c0 c1 c2 c3 d:Int):K:=
 if h:d=0 then zero else
 ⟨c0/den c0 c1 c2 c3 d,c1/den c0 c1 c2 c3 d,c2/den c0 c1 c2 c3 d,c3/den c0 c1 c2 c3 d,d/den c0 c1 c2 c3 d,znM h,zr6 h⟩
theorem of_spec(c0 c1 c2 c3:Int){d:Int}(h:d≠0): ∃s:Int,s≠0∧c0=s*(of c0 c1 c2 c3 d).c0∧c1=s*(of c0 c1 c2 c3 d).c1∧c2=s*(of c0 c1 c2 c3 d).c2∧c3=s*(of c0 c1 c2 c3 d).c3∧d=s*(of c0 c1 c2 c3 d).d:=by
 obtain⟨h0,h1,h2,h3,h4⟩:=den_dvd c0 c1 c2 c3 d
 refine⟨den c0 c1 c2 c3 d,den_ne h,?_⟩
 simp only[of,dif_neg h]
 exact⟨(Int.mul_ediv_cancel' h0).symm,(Int.mul_ediv_cancel' h1).symm,(Int.mul_ediv_cancel' h2).symm,(Int.mul_ediv_cancel' h3).symm,(Int.mul_ediv_cancel' h4).symm⟩
theorem cross{x y:K}(h0:x.c0*y.d=y.c0*x.d)(h1:x.c1*y.d=y.c1*x.d)(h2:x.c2*y.d=y.c2*x.d)(h3:x.c3*y.d=y.c3*x.d):x=y:=by
 have hx:=x.pos
 have hy:=y.pos
 have e1:=z7b y.d x.c0 x.c1 x.c2 x.c3 x.d
 have e2:=z7b x.d y.c0 y.c1 y.c2 y.c3 y.d
 rw[x.cop]at e1
 rw[y.cop]at e2
 rw[Int.mul_comm x.d y.c0,Int.mul_comm x.d y.c1,Int.mul_comm x.d y.c2,Int.mul_comm x.d y.c3,←h0,←h1,←h2,←h3,Int.mul_comm x.d y.d,Int.mul_comm x.c0,Int.mul_comm x.c1,Int.mul_comm x.c2,Int.mul_comm x.c3,e1]at e2
 have hd:x.d=y.d:=by omega
 have hc: ∀a b:Int,a*y.d=b*x.d→a=b:=by
  intro a b h
  rw[hd]at h
  exact Int.eq_of_mul_eq_mul_right y.d_ne h
 exact ext (hc _ _ h0) (hc _ _ h1) (hc _ _ h2) (hc _ _ h3) hd
theorem z4z(x:K):of x.c0 x.c1 x.c2 x.c3 x.d=x:=by
 obtain⟨s,hs,h0,h1,h2,h3,hd⟩:=of_spec x.c0 x.c1 x.c2 x.c3 x.d_ne
 generalize of x.c0 x.c1 x.c2 x.c3 x.d=y at*
 apply cross
 · conv=>lhs;rw[hd]
   conv=>rhs;rw[h0]
   grind
 · conv=>lhs;rw[hd]
   conv=>rhs;rw[h1]
   grind
 · conv=>lhs;rw[hd]
   conv=>rhs;rw[h2]
   grind
 · conv=>lhs;rw[hd]
   conv=>rhs;rw[h3]
   grind
theorem zgQ{a0 a1 a2 a3 d b0 b1 b2 b3 e:Int}(hd:d≠0)(he:e≠0)(h0:a0*e=b0*d)(h1:a1*e=b1*d)(h2:a2*e=b2*d)(h3:a3*e=b3*d):of a0 a1 a2 a3 d=of b0 b1 b2 b3 e:=by
 obtain⟨s,hs,x0,x1,x2,x3,xd⟩:=of_spec a0 a1 a2 a3 hd
 obtain⟨t,ht,y0,y1,y2,y3,yd⟩:=of_spec b0 b1 b2 b3 he
 generalize of a0 a1 a2 a3 d=x at*
 generalize of b0 b1 b2 b3 e=y at*
 have hst:s*t≠0:=Int.mul_ne_zero hs ht
 have key: ∀p q u v:Int,p=s*u→q=t*v→p*e=q*d→u*y.d=v*x.d:=by
  intro p q u v hp hq hpq
  rw[hp,hq,yd,xd]at hpq
  apply Int.eq_of_mul_eq_mul_left hst
  have e1:s*t*(u*y.d)=s*u*(t*y.d):=by grind
  have e2:s*t*(v*x.d)=t*v*(s*x.d):=by grind
  rw[e1,e2,hpq]
 exact cross (key _ _ _ _ x0 y0 h0) (key _ _ _ _ x1 y1 h1) (key _ _ _ _ x2 y2 h2) (key _ _ _ _ x3 y3 h3)
theorem z5m{s a0 a1 a2 a3 d:Int}(hs:s≠0)(hd:d≠0):of (s*a0) (s*a1) (s*a2) (s*a3) (s*d)=of a0 a1 a2 a3 d:=by
 apply zgQ (Int.mul_ne_zero hs hd) hd<;>grind
def add(x y:K):K:=of (x.c0*y.d+y.c0*x.d) (x.c1*y.d+y.c1*x.d) (x.c2*y.d+y.c2*x.d) (x.c3*y.d+y.c3*x.d) (x.d*y.d)
def mul(x y:K):K:=of (x.c0*y.c0+2*x.c1*y.c1+3*x.c2*y.c2+6*x.c3*y.c3) (x.c0*y.c1+x.c1*y.c0+3*x.c2*y.c3+3*x.c3*y.c2)
 (x.c0*y.c2+x.c2*y.c0+2*x.c1*y.c3+2*x.c3*y.c1) (x.c0*y.c3+x.c3*y.c0+x.c1*y.c2+x.c2*y.c1) (x.d*y.d)
def neg(x:K):K:=⟨-x.c0,-x.c1,-x.c2,-x.c3,x.d,x.pos,by have:=x.cop;simpa only[X3,Int.natAbs_neg]using this⟩
def ofInt(n:Int):K:=⟨n,0,0,0,1,by decide,by simp[X3]⟩
instance:Add K:=⟨add⟩
instance:Mul K:=⟨mul⟩
instance:Neg K:=⟨neg⟩
instance:Sub K:=⟨fun x y=>x+ -y⟩
instance:OfNat K 0:=⟨zero⟩
instance:OfNat K 1:=⟨one⟩
instance:Inhabited K:=⟨zero⟩
theorem z1E{a0 a1 a2 a3 d b0 b1 b2 b3 e:Int}(hd:d≠0)(he:e≠0):of a0 a1 a2 a3 d+of b0 b1 b2 b3 e=of (a0*e+b0*d) (a1*e+b1*d) (a2*e+b2*d) (a3*e+b3*d) (d*e):=by
 obtain⟨s,hs,x0,x1,x2,x3,xd⟩:=of_spec a0 a1 a2 a3 hd
 obtain⟨t,ht,y0,y1,y2,y3,yd⟩:=of_spec b0 b1 b2 b3 he
 generalize of a0 a1 a2 a3 d=x at*
 generalize of b0 b1 b2 b3 e=y at*
 subst x0 x1 x2 x3 xd y0 y1 y2 y3 yd
 show add x y=_
 have:=z5m (s:=s*t) (a0:=x.c0*y.d+y.c0*x.d) (a1:=x.c1*y.d+y.c1*x.d) (a2:=x.c2*y.d+y.c2*x.d) (a3:=x.c3*y.d+y.c3*x.d) (d:=x.d*y.d) (Int.mul_ne_zero hs ht) (Int.mul_ne_zero x.d_ne y.d_ne)
 rw[add,←this]
 congr 1<;>grind
theorem mul_of{a0 a1 a2 a3 d b0 b1 b2 b3 e:Int}(hd:d≠0)(he:e≠0):of a0 a1 a2 a3 d*of b0 b1 b2 b3 e=of (a0*b0+2*a1*b1+3*a2*b2+6*a3*b3) (a0*b1+a1*b0+3*a2*b3+3*a3*b2) (a0*b2+a2*b0+2*a1*b3+2*a3*b1) (a0*b3+a3*b0+a1*b2+a2*b1) (d*e):=by
 obtain⟨s,hs,x0,x1,x2,x3,xd⟩:=of_spec a0 a1 a2 a3 hd
 obtain⟨t,ht,y0,y1,y2,y3,yd⟩:=of_spec b0 b1 b2 b3 he
 generalize of a0 a1 a2 a3 d=x at*
 generalize of b0 b1 b2 b3 e=y at*
 subst x0 x1 x2 x3 xd y0 y1 y2 y3 yd
 show mul x y=_
 rw[mul,←z5m (s:=s*t) (Int.mul_ne_zero hs ht) (Int.mul_ne_zero x.d_ne y.d_ne)]
 congr 1<;>grind
theorem zop{a0 a1 a2 a3 d:Int}(hd:d≠0): -of a0 a1 a2 a3 d=of (-a0) (-a1) (-a2) (-a3) d:=by
 obtain⟨s,hs,x0,x1,x2,x3,xd⟩:=of_spec a0 a1 a2 a3 hd
 generalize of a0 a1 a2 a3 d=x at*
 subst x0 x1 x2 x3 xd
 show neg x=_
 conv=>lhs;rw[←z4z (neg x)]
 rw[←z5m hs (neg x).d_ne]
 simp only[neg]
 congr 1<;>grind
theorem zcx(x:K): ∃a b c d e:Int,e≠0∧x=of a b c d e:=⟨_,_,_,_,_,x.d_ne,(z4z x).symm⟩
theorem za7:(0:K)=of 0 0 0 0 1:=by decide
theorem zob:(1:K)=of 1 0 0 0 1:=by decide
theorem z0H(n:Int):ofInt n=of n 0 0 0 1:=by rw[←z4z (ofInt n)];rfl
theorem add_comm(x y:K):x+y=y+x:=by
 show add x y=add y x
 simp only[add]
 congr 1<;>grind
theorem mul_comm(x y:K):x*y=y*x:=by
 show mul x y=mul y x
 simp only[mul]
 congr 1<;>grind
theorem add_assoc(x y z:K):x+y+z=x+(y+z):=by
 obtain⟨a0,a1,a2,a3,a,ha,rfl⟩:=zcx x
 obtain⟨b0,b1,b2,b3,b,hb,rfl⟩:=zcx y
 obtain⟨c0,c1,c2,c3,c,hc,rfl⟩:=zcx z
 rw[z1E ha hb,z1E hb hc,z1E (Int.mul_ne_zero ha hb) hc,z1E ha (Int.mul_ne_zero hb hc)]
 congr 1<;>grind
theorem mul_assoc(x y z:K):x*y*z=x*(y*z):=by
 obtain⟨a0,a1,a2,a3,a,ha,rfl⟩:=zcx x
 obtain⟨b0,b1,b2,b3,b,hb,rfl⟩:=zcx y
 obtain⟨c0,c1,c2,c3,c,hc,rfl⟩:=zcx z
 rw[mul_of ha hb,mul_of hb hc,mul_of (Int.mul_ne_zero ha hb) hc,mul_of ha (Int.mul_ne_zero hb hc)]
 congr 1<;>grind
theorem mul_add(x y z:K):x*(y+z)=x*y+x*z:=by
 obtain⟨a0,a1,a2,a3,a,ha,rfl⟩:=zcx x
 obtain⟨b0,b1,b2,b3,b,hb,rfl⟩:=zcx y
 obtain⟨c0,c1,c2,c3,c,hc,rfl⟩:=zcx z
 rw[z1E hb hc,mul_of ha hb,mul_of ha hc,mul_of ha (Int.mul_ne_zero hb hc),z1E (Int.mul_ne_zero ha hb) (Int.mul_ne_zero ha hc)]
 rw[←z5m (s:=a) ha (Int.mul_ne_zero ha (Int.mul_ne_zero hb hc))]
 congr 1<;>grind
theorem zero_add(x:K):0+x=x:=by
 obtain⟨a0,a1,a2,a3,a,ha,rfl⟩:=zcx x
 rw[za7,z1E (by decide) ha]
 congr 1<;>grind
theorem add_zero(x:K):x+0=x:=by rw[add_comm,zero_add]
theorem one_mul(x:K):1*x=x:=by
 obtain⟨a0,a1,a2,a3,a,ha,rfl⟩:=zcx x
 rw[zob,mul_of (by decide) ha]
 congr 1<;>grind
theorem add_neg(x:K):x+ -x=0:=by
 obtain⟨a0,a1,a2,a3,a,ha,rfl⟩:=zcx x
 rw[za7,zop ha,z1E ha ha]
 apply zgQ (Int.mul_ne_zero ha ha) (by decide)<;>grind
theorem sub_eq(x y:K):x-y=x+ -y:=rfl
end K
end Go.Fw
set_option maxRecDepth 10000
namespace Go.Fw
class CR(R:Type) extends Add R,Mul R,Neg R,Sub R where
 ofInt:Int→R
 add_comm: ∀x y:R,x+y=y+x
 add_assoc: ∀x y z:R,x+y+z=x+(y+z)
 zero_add: ∀x:R,ofInt 0+x=x
 add_neg: ∀x:R,x+ -x=ofInt 0
 mul_comm: ∀x y:R,x*y=y*x
 mul_assoc: ∀x y z:R,x*y*z=x*(y*z)
 mul_add: ∀x y z:R,x*(y+z)=x*y+x*z
 one_mul: ∀x:R,ofInt 1*x=x
 sub_eq: ∀x y:R,x-y=x+ -y
 ofInt_add: ∀a b:Int,ofInt (a+b)=ofInt a+ofInt b
 ofInt_mul: ∀a b:Int,ofInt (a*b)=ofInt a*ofInt b
namespace CR
variable{R:Type}[CR R]
theorem add_zero(x:R):x+ofInt 0=x:=by rw[add_comm,zero_add]
theorem mul_one(x:R):x*ofInt 1=x:=by rw[mul_comm,one_mul]
theorem add_mul(x y z:R):(x+y)*z=x*z+y*z:=by rw[mul_comm,mul_add,mul_comm z x,mul_comm z y]
theorem mul_zero(x:R):x*ofInt 0=ofInt 0:=by
 have h:x*ofInt 0+x*ofInt 0=x*ofInt 0:=by rw[←mul_add,add_zero]
 have h2:x*ofInt 0+x*ofInt 0+ -(x*ofInt 0)=x*ofInt 0+ -(x*ofInt 0):=by rw[h]
 rwa[add_assoc,add_neg,add_zero]at h2
theorem zero_mul(x:R):ofInt 0*x=ofInt 0:=by rw[mul_comm,mul_zero]
theorem zie(x:R): -x=ofInt (-1)*x:=by
 have h:x+ofInt (-1)*x=ofInt 0:=by
  conv=>lhs;lhs;rw[←one_mul x]
  rw[←add_mul,←ofInt_add];exact zero_mul x
 have h2: -x+(x+ofInt (-1)*x)= -x+ofInt 0:=by rw[h]
 rw[←add_assoc,add_comm (-x) x,add_neg,zero_add,add_zero]at h2
 exact h2.symm
def zqe(i:Nat):List Nat→List Nat
 | []=>[i]
 |j::m=>match Nat.ble i j with|true=>i::j::m|false=>j::zqe i m
def zh9(a b:List Nat):List Nat:=a.foldr zqe b
def zgO:List Nat→List Nat→Ordering
 | [],[]=> .eq
 | [],_=> .lt
 |_,[]=> .gt
 |i::a,j::b=>match Nat.beq i j with
  |true=>zgO a b
  |false=>match Nat.ble i j with|true=> .lt|false=> .gt
abbrev zcl:=List (List Nat×Int)
def zpC(m:List Nat)(c:Int):zcl→zcl
 | []=>[(m,c)]
 |(k,d)::p=>match zgO m k with
  | .eq=>match c+d with| .ofNat 0=>p|s=>(k,s)::p
  | .lt=>(m,c)::(k,d)::p
  | .gt=>(k,d)::zpC m c p
def zpT(p q:zcl):zcl:=p.foldr (fun t a=>zpC t.1 t.2 a) q
def zqV(m:List Nat)(c:Int)(p:zcl):zcl:=p.map fun t=>(zh9 m t.1,c*t.2)
def zsL(p q:zcl):zcl:=p.foldr (fun t a=>zpT (zqV t.1 t.2 q) a) []
variable(ρ:Nat→R)
def z8X(m:List Nat):R:=m.foldr (fun i a=>ρ i*a) (ofInt 1)
def z6Q(p:zcl):R:=p.foldr (fun t a=>ofInt t.2*z8X ρ t.1+a) (ofInt 0)
theorem z63(i:Nat)(m:List Nat):z8X ρ (i::m)=ρ i*z8X ρ m:=rfl
theorem z2c(t:List Nat×Int)(p:zcl):z6Q ρ (t::p)=ofInt t.2*z8X ρ t.1+z6Q ρ p:=rfl
theorem zb5(i:Nat): ∀m,z8X ρ (zqe i m)=ρ i*z8X ρ m
 | []=>rfl
 |j::m=>by
  simp only[zqe]
  split
  · rfl
  · rw[z63,zb5 i m,z63,←mul_assoc,mul_comm (ρ j),mul_assoc]
theorem zaw: ∀a b,z8X ρ (zh9 a b)=z8X ρ a*z8X ρ b
 | [],b=>(one_mul _).symm
 |i::a,b=>by
  show z8X ρ (zqe i (zh9 a b))=_
  rw[zb5,zaw a b,z63,mul_assoc]
theorem zbp: ∀a b,zgO a b= .eq→a=b
 | [],[],_=>rfl
 | [],_::_,h=>by cases h
 |_::_,[],h=>by cases h
 |i::a,j::b,h=>by
  simp only[zgO]at h
  split at h
  · rename_i hij;rw[Nat.eq_of_beq_eq_true hij,zbp a b h]
  · split at h<;>cases h
theorem z8W(m:List Nat)(c:Int): ∀p,z6Q ρ (zpC m c p)=ofInt c*z8X ρ m+z6Q ρ p
 | []=>rfl
 |(k,d)::p=>by
  simp only[zpC]
  split
  · rename_i h
    have:=zbp _ _ h
    subst this
    have e:ofInt c*z8X ρ m+z6Q ρ ((m,d)::p)=ofInt (c+d)*z8X ρ m+z6Q ρ p:=by
     rw[z2c,←add_assoc,←add_mul,←ofInt_add]
    rw[e]
    split
    · rename_i h0
      rw[h0]
      show z6Q ρ p=ofInt 0*z8X ρ m+z6Q ρ p
      rw[zero_mul,zero_add]
    · rfl
  · rfl
  · rw[z2c,z8W m c p,z2c,←add_assoc,←add_assoc,add_comm (ofInt d*z8X ρ k)]
theorem z7n: ∀p q,z6Q ρ (zpT p q)=z6Q ρ p+z6Q ρ q
 | [],q=>(zero_add _).symm
 |t::p,q=>by
  show z6Q ρ (zpC t.1 t.2 (zpT p q))=_
  rw[z8W,z7n p q,z2c,add_assoc]
theorem z5J(m:List Nat)(c:Int): ∀p,z6Q ρ (zqV m c p)=ofInt c*z8X ρ m*z6Q ρ p
 | []=>(mul_zero _).symm
 |t::p=>by
  show ofInt (c*t.2)*z8X ρ (zh9 m t.1)+z6Q ρ (zqV m c p)=_
  rw[z5J m c p,z2c,mul_add,zaw,ofInt_mul]
  congr 1
  rw[mul_assoc,mul_assoc]
  congr 1
  rw[←mul_assoc,mul_comm (ofInt t.2),mul_assoc]
theorem zaO: ∀p q,z6Q ρ (zsL p q)=z6Q ρ p*z6Q ρ q
 | [],q=>(zero_mul _).symm
 |t::p,q=>by
  show z6Q ρ (zpT (zqV t.1 t.2 q) (zsL p q))=_
  rw[z7n,z5J,zaO p q,z2c,add_mul]
inductive Tm where
 |v (i:Nat)
 |n (k:Int)
 |add (a b:Tm)
 |mul (a b:Tm)
 |neg (a:Tm)
def Tm.den:Tm→R
 | .v i=>ρ i
 | .n k=>ofInt k
 | .add a b=>a.den+b.den
 | .mul a b=>a.den*b.den
 | .neg a=> -a.den
def Tm.norm:Tm→zcl
 | .v i=>[([i],1)]
 | .n k=>match k with| .ofNat 0=>[]|k=>[([],k)]
 | .add a b=>zpT a.norm b.norm
 | .mul a b=>zsL a.norm b.norm
 | .neg a=>zqV [] (-1) a.norm
theorem Tm.norm_den: ∀t:Tm,z6Q ρ t.norm=t.den ρ
 | .v i=>by
  show ofInt 1*(ρ i*ofInt 1)+ofInt 0=ρ i
  rw[add_zero,mul_one,one_mul]
 | .n k=>by
  simp only[Tm.norm]
  split
  · rfl
  · show ofInt k*ofInt 1+ofInt 0=ofInt k
    rw[add_zero,mul_one]
 | .add a b=>by simp only[Tm.norm,Tm.den,z7n,norm_den a,norm_den b]
 | .mul a b=>by simp only[Tm.norm,Tm.den,zaO,norm_den a,norm_den b]
 | .neg a=>by
  simp only[Tm.norm,Tm.den,z5J,norm_den a]
  show ofInt (-1)*ofInt 1*a.den ρ=_
  rw[mul_one,←zie]
class Rf(x:R)(t:outParam Tm):Prop where
 eq:x=t.den ρ
instance(i:Nat):Rf ρ (ρ i) (.v i):=⟨rfl⟩
instance(k:Int):Rf ρ (ofInt k) (.n k):=⟨rfl⟩
instance(x y:R)(s t:Tm)[a:Rf ρ x s][b:Rf ρ y t]:Rf ρ (x+y) (.add s t):=⟨by rw[a.eq,b.eq];rfl⟩
instance(x y:R)(s t:Tm)[a:Rf ρ x s][b:Rf ρ y t]:Rf ρ (x*y) (.mul s t):=⟨by rw[a.eq,b.eq];rfl⟩
instance(x:R)(s:Tm)[a:Rf ρ x s]:Rf ρ (-x) (.neg s):=⟨by rw[a.eq];rfl⟩
instance(x y:R)(s t:Tm)[a:Rf ρ x s][b:Rf ρ y t]:Rf ρ (x-y) (.add s (.neg t)):=⟨by rw[sub_eq,a.eq,b.eq];rfl⟩
def zsG:List Nat→List Nat→Bool
 | [],[]=>true
 |i::a,j::b=>Nat.beq i j&&zsG a b
 |_,_=>false
def eqZ:Int→Int→Bool
 | .ofNat a,.ofNat b=>Nat.beq a b
 | .negSucc a,.negSucc b=>Nat.beq a b
 |_,_=>false
def zsx:zcl→zcl→Bool
 | [],[]=>true
 |(m,c)::p,(k,d)::q=>zsG m k&&eqZ c d&&zsx p q
 |_,_=>false
theorem zf6: ∀a b,zsG a b=true→a=b
 | [],[],_=>rfl
 | [],_::_,h=>by cases h
 |_::_,[],h=>by cases h
 |i::a,j::b,h=>by
  simp only[zsG,Bool.and_eq_true]at h
  rw[Nat.eq_of_beq_eq_true h.1,zf6 a b h.2]
theorem zoi: ∀a b,eqZ a b=true→a=b
 | .ofNat a,.ofNat b,h=>by rw[Nat.eq_of_beq_eq_true h]
 | .negSucc a,.negSucc b,h=>by rw[Nat.eq_of_beq_eq_true h]
 | .ofNat _,.negSucc _,h=>by cases h
 | .negSucc _,.ofNat _,h=>by cases h
theorem zdd: ∀p q,zsx p q=true→p=q
 | [],[],_=>rfl
 | [],_::_,h=>by cases h
 |_::_,[],h=>by cases h
 |(m,c)::p,(k,d)::q,h=>by
  simp only[zsx,Bool.and_eq_true]at h
  rw[zf6 _ _ h.1.1,zoi _ _ h.1.2,zdd p q h.2]
theorem ring{x y:R}{s t:Tm}[a:Rf ρ x s][b:Rf ρ y t] (h:zsx s.norm t.norm=true):x=y:=by
 rw[a.eq,b.eq,←Tm.norm_den,←Tm.norm_den,zdd _ _ h]
def vr(l:List R):Nat→R:=fun i=>l.getD i (ofInt 0)
def at3(a b c:R):Nat→R|0=>a|1=>b|_=>c
theorem zfc{x y:R}(h:x-y=ofInt 0):x=y:=by
 have:x-y+y=ofInt 0+y:=by rw[h]
 have e:x-y+y=x:=ring (at3 x y y) (x:=at3 x y y 0-at3 x y y 1+at3 x y y 1) (y:=at3 x y y 0) rfl
 rw[e,zero_add]at this;exact this
end CR
instance:CR Int where
 ofInt:=id
 add_comm:=Int.add_comm
 add_assoc:=Int.add_assoc
 zero_add:=Int.zero_add
 add_neg:=Int.add_right_neg
 mul_comm:=Int.mul_comm
 mul_assoc:=Int.mul_assoc
 mul_add:=Int.mul_add
 one_mul:=Int.one_mul
 sub_eq:=fun _ _=>Int.sub_eq_add_neg
 ofInt_add:=fun _ _=>rfl
 ofInt_mul:=fun _ _=>rfl
structure Adj(R:Type)[CR R] (m:R) where
 re:R
 im:R
namespace Adj
variable{R:Type}[CR R] {m:R}
theorem ext{x y:Adj R m}(h1:x.re=y.re)(h2:x.im=y.im):x=y:=by cases x;cases y;simp only at h1 h2;subst h1 h2;rfl
instance:CR (Adj R m) where
 add x y:=⟨x.re+y.re,x.im+y.im⟩
 mul x y:=⟨x.re*y.re+m*(x.im*y.im),x.re*y.im+x.im*y.re⟩
 neg x:=⟨-x.re,-x.im⟩
 sub x y:=⟨x.re-y.re,x.im-y.im⟩
 ofInt n:=⟨CR.ofInt n,CR.ofInt 0⟩
 add_comm x y:=ext (CR.add_comm _ _) (CR.add_comm _ _)
 add_assoc x y z:=ext (CR.add_assoc _ _ _) (CR.add_assoc _ _ _)
 zero_add x:=ext (CR.zero_add _) (CR.zero_add _)
 add_neg x:=ext (CR.add_neg _) (CR.add_neg _)
 mul_comm x y:=by
  refine ext ?_ ?_
  · show x.re*y.re+m*(x.im*y.im)=y.re*x.re+m*(y.im*x.im)
    rw[CR.mul_comm x.re,CR.mul_comm x.im]
  · show x.re*y.im+x.im*y.re=y.re*x.im+y.im*x.re
    rw[CR.add_comm,CR.mul_comm x.im,CR.mul_comm x.re]
 mul_assoc x y z:=by
  refine ext ?_ ?_
  · exact(show ∀ρ:Nat→R,(ρ 0*ρ 2+ρ 6*(ρ 1*ρ 3))*ρ 4+ρ 6*((ρ 0*ρ 3+ρ 1*ρ 2)*ρ 5)=ρ 0*(ρ 2*ρ 4+ρ 6*(ρ 3*ρ 5))+ρ 6*(ρ 1*(ρ 2*ρ 5+ρ 3*ρ 4))from fun ρ=>CR.ring ρ rfl) (CR.vr [x.re,x.im,y.re,y.im,z.re,z.im,m])
  · exact(show ∀ρ:Nat→R,(ρ 0*ρ 2+ρ 6*(ρ 1*ρ 3))*ρ 5+(ρ 0*ρ 3+ρ 1*ρ 2)*ρ 4=ρ 0*(ρ 2*ρ 5+ρ 3*ρ 4)+ρ 1*(ρ 2*ρ 4+ρ 6*(ρ 3*ρ 5))from fun ρ=>CR.ring ρ rfl) (CR.vr [x.re,x.im,y.re,y.im,z.re,z.im,m])
 mul_add x y z:=by
  refine ext ?_ ?_
  · exact(show ∀ρ:Nat→R,ρ 0*(ρ 2+ρ 4)+ρ 6*(ρ 1*(ρ 3+ρ 5))=ρ 0*ρ 2+ρ 6*(ρ 1*ρ 3)+(ρ 0*ρ 4+ρ 6*(ρ 1*ρ 5))from fun ρ=>CR.ring ρ rfl) (CR.vr [x.re,x.im,y.re,y.im,z.re,z.im,m])
  · exact(show ∀ρ:Nat→R,ρ 0*(ρ 3+ρ 5)+ρ 1*(ρ 2+ρ 4)=ρ 0*ρ 3+ρ 1*ρ 2+(ρ 0*ρ 5+ρ 1*ρ 4)from fun ρ=>CR.ring ρ rfl) (CR.vr [x.re,x.im,y.re,y.im,z.re,z.im,m])
 one_mul x:=by
  refine ext ?_ ?_
  · exact(show ∀ρ:Nat→R,CR.ofInt 1*ρ 0+ρ 2*(CR.ofInt 0*ρ 1)=ρ 0 from fun ρ=>CR.ring ρ rfl) (CR.vr [x.re,x.im,m])
  · exact(show ∀ρ:Nat→R,CR.ofInt 1*ρ 1+CR.ofInt 0*ρ 0=ρ 1 from fun ρ=>CR.ring ρ rfl) (CR.vr [x.re,x.im,m])
 sub_eq x y:=ext (CR.sub_eq _ _) (CR.sub_eq _ _)
 ofInt_add a b:=ext (CR.ofInt_add _ _) (CR.zero_add _).symm
 ofInt_mul a b:=by
  refine ext ?_ ?_
  · show CR.ofInt (a*b)=CR.ofInt a*CR.ofInt b+m*(CR.ofInt 0*CR.ofInt 0)
    rw[CR.ofInt_mul,CR.zero_mul,CR.mul_zero,CR.add_zero]
  · show CR.ofInt 0=CR.ofInt a*CR.ofInt 0+CR.ofInt 0*CR.ofInt b
    rw[CR.mul_zero,CR.zero_mul,CR.zero_add]
end Adj
class Sg(R:Type)[CR R] where
 sg:R→Int
 vals: ∀x,sg x= -1∨sg x=0∨sg x=1
 zero: ∀x,sg x=0↔x=CR.ofInt 0
 neg: ∀x,sg (-x)= -sg x
 mul: ∀x y,sg (x*y)=sg x*sg y
 add: ∀x y,sg x=1→sg y=1→sg (x+y)=1
instance:Sg Int where
 sg:=Int.sign
 vals x := by rcases Int.lt_trichotomy x 0 with h | h | h
              · exact .inl (Int.sign_eq_neg_one_of_neg h)
              · subst h;exact .inr (.inl rfl)
              · exact .inr (.inr (Int.sign_eq_one_of_pos h))
 zero x:=Int.sign_eq_zero_iff_zero
 neg x:=Int.sign_neg x
 mul x y:=Int.sign_mul x y
 add x y h1 h2:=by
  rw[Int.sign_eq_one_iff_pos]at*
  omega
namespace Sg
variable{R:Type}[CR R][Sg R]
open CR
theorem sq{x:R}(h:sg x≠0):sg (x*x)=1:=by
 rw[mul]
 rcases vals x with e|e|e<;>rw[e]at h ⊢ <;>first|rfl|exact absurd rfl h
theorem sq_nonneg(x:R):sg (x*x)=0∨sg (x*x)=1:=by
 by_cases h:sg x=0
 · left;rw[mul,h];rfl
 · right;exact sq h
def Nn(x:R):Prop:=sg x=0∨sg x=1
theorem Nn.add{x y:R}(hx:Nn x)(hy:Nn y):Nn (x+y):=by
 rcases hx with hx|hx
 · rw[(zero x).1 hx,zero_add];exact hy
 · rcases hy with hy|hy
   · rw[(zero y).1 hy,add_zero];exact .inr hx
   · exact .inr (Sg.add x y hx hy)
theorem Nn.mul{x y:R}(hx:Nn x)(hy:Nn y):Nn (x*y):=by
 unfold Nn at*
 rw[Sg.mul]
 rcases hx with hx|hx<;>rcases hy with hy|hy<;>rw[hx,hy]<;>decide
theorem z39{x y:R}(hx:sg x=1)(hy:Nn y):sg (x+y)=1:=by
 rcases hy with hy|hy
 · rw[(zero y).1 hy,add_zero];exact hx
 · exact add x y hx hy
theorem z4m{x:R}(h:sg x= -1):sg (-x)=1:=by rw[neg,h];rfl
class Irr(m:R):Prop where
 pos:sg m=1
 irr: ∀u v:R,u*u=m*(v*v)→v=ofInt 0
theorem zsu{x y:R}(hx:sg x=1)(h:sg (x*x-y*y)=1):sg (x+y)=1:=by
 have e:(x+y)*(x-y)=x*x-y*y:=CR.ring (at3 x y y) (x:=(at3 x y y 0+at3 x y y 1)*(at3 x y y 0-at3 x y y 1)) (y:=at3 x y y 0*at3 x y y 0-at3 x y y 1*at3 x y y 1) rfl
 rw[←e,mul]at h
 rcases vals (x+y)with h1|h1|h1
 · rcases vals (x-y)with h2|h2|h2
   · -- both negative: x is
     have h3:=add _ _ (z4m h1) (z4m h2)
     have e2: -(x+y)+ -(x-y)= -(x+x):=CR.ring (at3 x y y) (x:= -(at3 x y y 0+at3 x y y 1)+ -(at3 x y y 0-at3 x y y 1)) (y:= -(at3 x y y 0+at3 x y y 0)) rfl
     rw[e2,neg,add _ _ hx hx]at h3
     exact absurd h3 (by decide)
   · rw[h2,h1]at h;exact absurd h (by decide)
   · rw[h2,h1]at h;exact absurd h (by decide)
 · rw[h1,Int.zero_mul]at h;exact absurd h (by decide)
 · exact h1
end Sg
end Go.Fw
