/- A part of the proof that the law returns true for every input: an executor for the model's code, and what functions of the program compute. -/
import Derived.Test.YtcafjpldfnegiaaDoorB11
import Derived.Test.YtcafjpldfnegiaaDoorB15
import Derived.Test.YtcafjpldfnegiaaDoorB22
import Derived.Test.YtcafjpldfnegiaaDoorB23
import Derived.Test.YtcafjpldfnegiaaDoorB24
import Derived.Test.YtcafjpldfnegiaaDoorB25
import Derived.KernelRfl
open Go IntKind
set_option maxRecDepth 10000
namespace Go.Fw
namespace K
theorem ofInt_add(a b:Int):ofInt (a+b)=ofInt a+ofInt b:=by
 rw[z1t,z1t a,z1t b,z2r (by decide) (by decide)];congr 1<;>grind
theorem ofInt_mul(a b:Int):ofInt (a*b)=ofInt a*ofInt b:=by
 rw[z1t,z1t a,z1t b,z2p (by decide) (by decide)];congr 1<;>grind
instance:CR K where
 ofInt:=ofInt
 add_comm:=add_comm
 add_assoc:=add_assoc
 zero_add:=zero_add
 add_neg:=add_neg
 mul_comm:=mul_comm
 mul_assoc:=mul_assoc
 mul_add:=mul_add
 one_mul:=one_mul
 sub_eq:=sub_eq
 ofInt_add:=ofInt_add
 ofInt_mul:=ofInt_mul
instance(ρ:Nat→K)(k:Int):CR.Rf ρ (K.ofInt k) (.n k):=⟨rfl⟩
instance(ρ:Nat→K):CR.Rf ρ 0 (.n 0):=⟨rfl⟩
instance(ρ:Nat→K):CR.Rf ρ 1 (.n 1):=⟨rfl⟩
theorem mul_zero(x:K):x*0=0:=CR.mul_zero x
theorem zero_mul(x:K):0*x=0:=CR.zero_mul x
def z7m(a b c d:Int):Z23:=⟨⟨a,b⟩,⟨c,d⟩⟩
def num(x:K):Z23:=z7m x.c0 x.c1 x.c2 x.c3
theorem z51{x y:Z23}(h0:x.re.re=y.re.re)(h1:x.re.im=y.re.im)(h2:x.im.re=y.im.re)(h3:x.im.im=y.im.im):x=y:=Adj.ext (Adj.ext h0 h1) (Adj.ext h2 h3)
theorem z3f{x:K}(h:num x=CR.ofInt 0):x=0:=by
 have h0:x.c0=0:=congrArg (fun z:Z23=>z.re.re) h
 have h1:x.c1=0:=congrArg (fun z:Z23=>z.re.im) h
 have h2:x.c2=0:=congrArg (fun z:Z23=>z.im.re) h
 have h3:x.c3=0:=congrArg (fun z:Z23=>z.im.im) h
 rw[←z5h x,h0,h1,h2,h3,z6p]
 exact zdU x.d_ne (by decide) (by simp) (by simp) (by simp) (by simp)
theorem zaU(a b c d a' b' c' d':Int):z7m a b c d+z7m a' b' c' d'=z7m (a+a') (b+b') (c+c') (d+d'):=rfl
theorem z7h(a b c d a' b' c' d':Int):z7m a b c d*z7m a' b' c' d'=z7m (a*a'+2*b*b'+3*c*c'+6*d*d') (a*b'+b*a'+3*c*d'+3*d*c') (a*c'+c*a'+2*b*d'+2*d*b') (a*d'+d*a'+b*c'+c*b'):=by
 refine z51 ?_ ?_ ?_ ?_
 · show a*a'+2*(b*b')+(3*(c*c'+2*(d*d'))+2*(0*(c*d'+d*c')))=a*a'+2*b*b'+3*c*c'+6*d*d'
   grind
 · show a*b'+b*a'+(3*(c*d'+d*c')+0*(c*c'+2*(d*d')))=a*b'+b*a'+3*c*d'+3*d*c'
   grind
 · show a*c'+2*(b*d')+(c*a'+2*(d*b'))=a*c'+c*a'+2*b*d'+2*d*b'
   grind
 · show a*d'+b*c'+(c*b'+d*a')=a*d'+d*a'+b*c'+c*b'
   grind
theorem z2H(s a b c d:Int):z7m (s*a) (s*b) (s*c) (s*d)=CR.ofInt s*z7m a b c d:=by
 show _=z7m s 0 0 0*z7m a b c d
 rw[z7h]
 unfold z7m
 congr 2<;>grind
theorem z9C(s:Int):Sg.sg (CR.ofInt s:Z23)=s.sign:=by
 by_cases h:s=0
 · subst h;exact(Sg.zero _).2 rfl
 · show Adj.sg (CR.ofInt s:Z23)=_
   have e:Adj.nm (CR.ofInt s:Z23)=CR.ofInt (s*s):=by
    refine Adj.ext ?_ ?_
    · show s*s+2*(0*0)-(3*(0*0+2*(0*0))+2*(0*(0*0+0*0)))=s*s
      simp
    · show s*0+0*s-(3*(0*0+0*0)+0*(0*0+2*(0*0)))=0
      simp
   have e2: ∀t:Int,t≠0→Adj.sg (CR.ofInt t:Z2)=t.sign:=by
    intro t ht
    have e:Adj.nm (CR.ofInt t:Z2)=t*t:=by show t*t-2*(0*0)=t*t;simp
    have:Sg.sg (Adj.nm (CR.ofInt t:Z2))=1:=by
     rw[e];show(t*t).sign=1
     rw[Int.sign_eq_one_iff_pos]
     rcases Int.lt_trichotomy t 0 with h|h|h
     · exact Int.mul_pos_of_neg_of_neg h h
     · exact absurd h ht
     · exact Int.mul_pos h h
    unfold Adj.sg
    rw[if_pos this];rfl
   have hs:(s*s).sign=1:=by
    rw[Int.sign_eq_one_iff_pos]
    rcases Int.lt_trichotomy s 0 with h'|h'|h'
    · exact Int.mul_pos_of_neg_of_neg h' h'
    · exact absurd h' h
    · exact Int.mul_pos h' h'
   unfold Adj.sg
   rw[e]
   have h1:Sg.sg (CR.ofInt (s*s):Z2)=1:=by
    show Adj.sg (CR.ofInt (s*s):Z2)=1
    rw[e2 _ (Int.mul_ne_zero h h),hs]
   rw[if_pos h1]
   exact e2 s h
def sgn(x:K):Int:=Sg.sg (num x)
theorem zbE(a b c d:Int){e:Int}(he:e≠0):sgn (of a b c d e)=Sg.sg (z7m a b c d)*e.sign:=by
 obtain⟨s,hs,x0,x1,x2,x3,xd⟩:=z09 a b c d he
 generalize of a b c d e=x at*
 have hx:x.d.sign=1:=Int.sign_eq_one_iff_pos.2 x.pos
 rw[x0,x1,x2,x3,z2H,Sg.mul,z9C,xd,Int.sign_mul,hx,Int.mul_one]
 show Sg.sg (num x)=_
 have hss:s.sign*s.sign=1:=by
  rcases Int.lt_trichotomy s 0 with h|h|h
  · rw[Int.sign_eq_neg_one_of_neg h];rfl
  · exact absurd h hs
  · rw[Int.sign_eq_one_of_pos h];rfl
 rw[Int.mul_comm s.sign,Int.mul_assoc]
 show _=Sg.sg (num x)*(s.sign*s.sign)
 rw[hss,Int.mul_one]
theorem sgn_mul(x y:K):sgn (x*y)=sgn x*sgn y:=by
 show sgn (mul x y)=_
 rw[mul,zbE _ _ _ _ (Int.mul_ne_zero x.d_ne y.d_ne),←z7h,Sg.mul,Int.sign_mul,Int.sign_eq_one_iff_pos.2 x.pos,Int.sign_eq_one_iff_pos.2 y.pos]
 show sgn x*sgn y*_=_
 simp
theorem zcF(x y:K)(hx:sgn x=1)(hy:sgn y=1):sgn (x+y)=1:=by
 show sgn (add x y)=1
 rw[add,zbE _ _ _ _ (Int.mul_ne_zero x.d_ne y.d_ne),←zaU,Int.sign_mul,Int.sign_eq_one_iff_pos.2 x.pos,Int.sign_eq_one_iff_pos.2 y.pos]
 rw[Int.mul_comm x.c0,Int.mul_comm x.c1,Int.mul_comm x.c2,Int.mul_comm x.c3,z2H,Int.mul_comm y.c0,Int.mul_comm y.c1,Int.mul_comm y.c2,Int.mul_comm y.c3,z2H]
 have h1:Sg.sg (CR.ofInt y.d*num x)=1:=by rw[Sg.mul,z9C,Int.sign_eq_one_iff_pos.2 y.pos];show 1*sgn x=1;rw[hx];rfl
 have h2:Sg.sg (CR.ofInt x.d*num y)=1:=by rw[Sg.mul,z9C,Int.sign_eq_one_iff_pos.2 x.pos];show 1*sgn y=1;rw[hy];rfl
 have h3:=Sg.add _ _ h1 h2
 exact (congrArg (· * (1 * 1)) h3).trans (by decide)
theorem ze0(x:K):num (-x)= -num x:=rfl
instance:Sg K where
 sg:=sgn
 vals x:=Sg.vals (num x)
 zero x:=⟨fun h=>z3f ((Sg.zero _).1 h),fun h=>by rw[h];exact(Sg.zero _).2 rfl⟩
 neg x:=by show Sg.sg (num (-x))=_;rw[ze0,Sg.neg];rfl
 mul:=sgn_mul
 add:=zcF
theorem sgn_zero{x:K}:sgn x=0↔x=0:=Sg.zero x
theorem z6U{x y:K}(hx:x≠0)(hy:y≠0):x*y≠0:=by
 intro h
 have h1:=sgn_mul x y
 rw[h,sgn_zero.2 rfl]at h1
 rcases Int.mul_eq_zero.1 h1.symm with h|h
 · exact hx (sgn_zero.1 h)
 · exact hy (sgn_zero.1 h)
def conj2(x:K):K:=⟨x.c0,x.c1,-x.c2,-x.c3,x.d,x.pos,by have:=x.cop;simpa only[Z3,Int.natAbs_neg]using this⟩
def conj1(x:K):K:=⟨x.c0,-x.c1,x.c2,-x.c3,x.d,x.pos,by have:=x.cop;simpa only[Z3,Int.natAbs_neg]using this⟩
def nrm(y:K):K:=y*conj2 y*conj1 (y*conj2 y)
def div(x y:K):K:=(x*conj2 y)*(conj1 (y*conj2 y)*of (nrm y).d 0 0 0 (nrm y).c0)
theorem z97{a b c d e:Int}(he:e≠0):(a=0→(of a b c d e).c0=0)∧(b=0→(of a b c d e).c1=0)∧(c=0→(of a b c d e).c2=0)∧(d=0→(of a b c d e).c3=0):=by
 obtain⟨s,hs,x0,x1,x2,x3,xd⟩:=z09 a b c d he
 generalize of a b c d e=x at*
 have key: ∀p q:Int,p=s*q→p=0→q=0:=by
  intro p q h h0
  rw[h0]at h
  rcases Int.mul_eq_zero.1 h.symm with h|h
  · exact absurd h hs
  · exact h
 exact⟨key _ _ x0,key _ _ x1,key _ _ x2,key _ _ x3⟩
theorem zbh(y:K):(y*conj2 y).c2=0∧(y*conj2 y).c3=0:=by
 show(mul y (conj2 y)).c2=0∧(mul y (conj2 y)).c3=0
 unfold mul
 have:=z97 (a:=y.c0*(conj2 y).c0+2*y.c1*(conj2 y).c1+3*y.c2*(conj2 y).c2+6*y.c3*(conj2 y).c3) (b:=y.c0*(conj2 y).c1+y.c1*(conj2 y).c0+3*y.c2*(conj2 y).c3+3*y.c3*(conj2 y).c2)
  (c:=y.c0*(conj2 y).c2+y.c2*(conj2 y).c0+2*y.c1*(conj2 y).c3+2*y.c3*(conj2 y).c1) (d:=y.c0*(conj2 y).c3+y.c3*(conj2 y).c0+y.c1*(conj2 y).c2+y.c2*(conj2 y).c1) (e:=y.d*(conj2 y).d) (Int.mul_ne_zero y.d_ne y.d_ne)
 exact⟨this.2.2.1 (by simp only[conj2];grind),this.2.2.2 (by simp only[conj2];grind)⟩
theorem zbr(y:K):(nrm y).c1=0∧(nrm y).c2=0∧(nrm y).c3=0:=by
 obtain⟨h2,h3⟩:=zbh y
 unfold nrm
 generalize y*conj2 y=t at*
 show(mul t (conj1 t)).c1=0∧(mul t (conj1 t)).c2=0∧(mul t (conj1 t)).c3=0
 unfold mul
 have:=z97 (a:=t.c0*(conj1 t).c0+2*t.c1*(conj1 t).c1+3*t.c2*(conj1 t).c2+6*t.c3*(conj1 t).c3) (b:=t.c0*(conj1 t).c1+t.c1*(conj1 t).c0+3*t.c2*(conj1 t).c3+3*t.c3*(conj1 t).c2)
  (c:=t.c0*(conj1 t).c2+t.c2*(conj1 t).c0+2*t.c1*(conj1 t).c3+2*t.c3*(conj1 t).c1) (d:=t.c0*(conj1 t).c3+t.c3*(conj1 t).c0+t.c1*(conj1 t).c2+t.c2*(conj1 t).c1) (e:=t.d*(conj1 t).d) (Int.mul_ne_zero t.d_ne t.d_ne)
 exact⟨this.2.1 (by simp only[conj1,h2,h3];grind),this.2.2.1 (by simp only[conj1,h2,h3];grind),this.2.2.2 (by simp only[conj1,h2,h3];grind)⟩
theorem z6L{y:K}(h:y≠0):conj2 y≠0:=by
 intro e
 apply h
 have h0:=congrArg K.c0 e
 have h1:=congrArg K.c1 e
 have h2:=congrArg K.c2 e
 have h3:=congrArg K.c3 e
 simp only[conj2]at h0 h1 h2 h3
 apply z3f
 have e0:(0:K).c0=0:=rfl
 have e1:(0:K).c1=0:=rfl
 have e2:(0:K).c2=0:=rfl
 have e3:(0:K).c3=0:=rfl
 exact z51 (show y.c0=0 by omega) (show y.c1=0 by omega) (show y.c2=0 by omega) (show y.c3=0 by omega)
theorem zai{y:K}(h:y≠0):conj1 y≠0:=by
 intro e
 apply h
 have h0:=congrArg K.c0 e
 have h1:=congrArg K.c1 e
 have h2:=congrArg K.c2 e
 have h3:=congrArg K.c3 e
 simp only[conj1]at h0 h1 h2 h3
 apply z3f
 have e0:(0:K).c0=0:=rfl
 have e1:(0:K).c1=0:=rfl
 have e2:(0:K).c2=0:=rfl
 have e3:(0:K).c3=0:=rfl
 exact z51 (show y.c0=0 by omega) (show y.c1=0 by omega) (show y.c2=0 by omega) (show y.c3=0 by omega)
theorem nrm_ne{y:K}(h:y≠0):(nrm y).c0≠0:=by
 have h1:nrm y≠0:=z6U (z6U h (z6L h)) (zai (z6U h (z6L h)))
 obtain⟨e1,e2,e3⟩:=zbr y
 intro e0
 exact h1 (z3f (z51 e0 e1 e2 e3))
def bl(z:Int):Nat:=(dig 256 z.natAbs).length
theorem zgT{z:Int}{k:Nat}:bl z≤k↔z.natAbs<256^k:=by
 constructor
 · intro h;exact Nat.lt_of_lt_of_le (J7 (by decide) _) (Nat.pow_le_pow_right (by decide) h)
 · intro h;exact Z0 (by decide) h
def sz(x:K):Nat:=max (bl x.c0) (max (bl x.c1) (max (bl x.c2) (max (bl x.c3) (bl x.d))))
theorem sz_le{x:K}{k:Nat}:sz x≤k↔x.c0.natAbs<256^k∧x.c1.natAbs<256^k∧x.c2.natAbs<256^k∧x.c3.natAbs<256^k∧x.d.natAbs<256^k:=by
 unfold sz
 simp only[Nat.max_le,zgT]
theorem sz_lt(x:K):x.c0.natAbs<256^sz x∧x.c1.natAbs<256^sz x∧x.c2.natAbs<256^sz x∧x.c3.natAbs<256^sz x∧x.d.natAbs<256^sz x:=sz_le.1 (Nat.le_refl _)
theorem X8(a b:Int)(hb:b∣a):(a/b).natAbs≤a.natAbs:=by
 obtain⟨k,rfl⟩:=hb
 by_cases h:b=0
 · subst h;simp
 · rw[Int.mul_ediv_cancel_left _ h,Int.natAbs_mul]
   exact Nat.le_mul_of_pos_left _ (by omega)
theorem zcp{a b c d e:Int}{k:Nat}(he:e≠0)(ha:a.natAbs<256^k)(hb:b.natAbs<256^k)(hc:c.natAbs<256^k)(hd:d.natAbs<256^k)(hk:e.natAbs<256^k):sz (of a b c d e)≤k:=by
 rw[sz_le]
 obtain⟨h0,h1,h2,h3,h4⟩:=den_dvd a b c d e
 unfold of
 rw[dif_neg he]
 exact⟨Nat.lt_of_le_of_lt (X8 _ _ h0) ha,Nat.lt_of_le_of_lt (X8 _ _ h1) hb,Nat.lt_of_le_of_lt (X8 _ _ h2) hc,Nat.lt_of_le_of_lt (X8 _ _ h3) hd,Nat.lt_of_le_of_lt (X8 _ _ h4) hk⟩
theorem mul_lt_pow{a b j k:Nat}(ha:a<256^j)(hb:b<256^k):a*b<256^(j+k):=by
 rw[Nat.pow_add]
 exact Nat.mul_lt_mul'' ha hb
theorem sz_add(x y:K):sz (x+y)≤sz x+sz y+1:=by
 obtain⟨x0,x1,x2,x3,xd⟩:=sz_lt x
 obtain⟨y0,y1,y2,y3,yd⟩:=sz_lt y
 have key: ∀a b:Int,a.natAbs<256^sz x→b.natAbs<256^sz y→(a*y.d+b*x.d).natAbs<256^(sz x+sz y+1):=by
  intro a b ha hb
  have h1:=mul_lt_pow ha yd
  have h2:=mul_lt_pow hb xd
  rw[←Int.natAbs_mul]at h1 h2
  rw[Nat.add_comm (sz y)]at h2
  rw[Nat.pow_succ]
  omega
 refine zcp (Int.mul_ne_zero x.d_ne y.d_ne) (key _ _ x0 y0) (key _ _ x1 y1) (key _ _ x2 y2) (key _ _ x3 y3) ?_
 have:=mul_lt_pow xd yd
 rw[←Int.natAbs_mul]at this
 rw[Nat.pow_succ];omega
theorem sz_mul(x y:K):sz (x*y)≤sz x+sz y+1:=by
 obtain⟨x0,x1,x2,x3,xd⟩:=sz_lt x
 obtain⟨y0,y1,y2,y3,yd⟩:=sz_lt y
 have key: ∀a b:Int,a.natAbs<256^sz x→b.natAbs<256^sz y→(a*b).natAbs<256^(sz x+sz y):=by
  intro a b ha hb
  have h1:=mul_lt_pow ha hb
  rwa[←Int.natAbs_mul]at h1
 have c:=fun(k a b:Int)=>Int.mul_assoc k a b
 refine zcp (Int.mul_ne_zero x.d_ne y.d_ne) ?_ ?_ ?_ ?_ ?_
 · have h1:=key _ _ x0 y0;have h2:=key _ _ x1 y1;have h3:=key _ _ x2 y2;have h4:=key _ _ x3 y3
   rw[Nat.pow_succ,c,c,c];omega
 · have h1:=key _ _ x0 y1;have h2:=key _ _ x1 y0;have h3:=key _ _ x2 y3;have h4:=key _ _ x3 y2
   rw[Nat.pow_succ,c,c];omega
 · have h1:=key _ _ x0 y2;have h2:=key _ _ x2 y0;have h3:=key _ _ x1 y3;have h4:=key _ _ x3 y1
   rw[Nat.pow_succ,c,c];omega
 · have h1:=key _ _ x0 y3;have h2:=key _ _ x3 y0;have h3:=key _ _ x1 y2;have h4:=key _ _ x2 y1
   rw[Nat.pow_succ];omega
 · have h1:=key _ _ xd yd
   rw[Nat.pow_succ];omega
theorem sz_neg(x:K):sz (-x)=sz x:=by
 show sz (neg x)=_
 simp only[sz,neg,bl,Int.natAbs_neg]
theorem sz_conj2(x:K):sz (conj2 x)=sz x:=by simp only[sz,conj2,bl,Int.natAbs_neg]
theorem sz_conj1(x:K):sz (conj1 x)=sz x:=by simp only[sz,conj1,bl,Int.natAbs_neg]
theorem sz_sub(x y:K):sz (x-y)≤sz x+sz y+1:=by
 have:=sz_add x (-y)
 rw[sz_neg]at this
 exact this
theorem sz_nrm(y:K):sz (nrm y)≤4*sz y+3:=by
 have h1:=sz_mul y (conj2 y)
 rw[sz_conj2]at h1
 have h2:=sz_mul (y*conj2 y) (conj1 (y*conj2 y))
 rw[sz_conj1]at h2
 unfold nrm;omega
theorem sz_inv(y:K):sz (of (nrm y).d 0 0 0 (nrm y).c0)≤4*sz y+3:=by
 by_cases h:(nrm y).c0=0
 · rw[h];show sz (of _ 0 0 0 0)≤_
   have e: ∀d:Int,of d 0 0 0 0=0:=fun d=>rfl
   rw[e];have:sz (0:K)=1:=by decide
   omega
 · have hn:=sz_nrm y
   obtain⟨h0,h1,h2,h3,h4⟩:=sz_le.1 hn
   exact zcp h h4 (by simpa using Nat.pow_pos (by decide)) (by simpa using Nat.pow_pos (by decide)) (by simpa using Nat.pow_pos (by decide)) h0
theorem sz_int(n:Int){k:Nat}(hk:1≤k)(h:n.natAbs<256^k):sz (ofInt n)≤k:=by
 rw[sz_le]
 have:256^1≤256^k:=Nat.pow_le_pow_right (by decide) hk
 simp only[ofInt]
 refine⟨h,?_,?_,?_,?_⟩<;>simp<;>omega
end K
set_option maxRecDepth 100000
def c4C(a b c d:Int):CV:= .agg [.lit (.bool (decide (a<0))),z08 (bytesOf a.natAbs),.lit (.bool (decide (b<0))),z08 (bytesOf b.natAbs),.lit (.bool (decide (c<0))),z08 (bytesOf c.natAbs),.lit (.bool (decide (d<0))),z08 (bytesOf d.natAbs)]
def n5C(a b c d e:Int):CV:= .agg [.lit (.bool (decide (a<0))),z08 (bytesOf a.natAbs),.lit (.bool (decide (b<0))),z08 (bytesOf b.natAbs),.lit (.bool (decide (c<0))),z08 (bytesOf c.natAbs),.lit (.bool (decide (d<0))),z08 (bytesOf d.natAbs),.lit (.bool (decide (e<0))),z08 (bytesOf e.natAbs)]
abbrev Z1(x:K):CV:=n5C x.c0 x.c1 x.c2 x.c3 x.d
theorem zbJ{a b c d e a' b' c' d' e':Int}(h0:a=a')(h1:b=b')(h2:c=c')(h3:d=d')(h4:e=e'):n5C a b c d e=n5C a' b' c' d' e':=by subst h0 h1 h2 h3 h4;rfl
theorem z9q(a b c d e:Int)(f:SmlZ e)(g:SmlZ a)(i:SmlZ (↑(e.natAbs.gcd a.natAbs):Int))(j:SmlZ b)(k:SmlZ (↑((↑(e.natAbs.gcd a.natAbs):Int).natAbs.gcd b.natAbs):Int))(l:SmlZ c)(m:SmlZ (↑((↑((↑(e.natAbs.gcd a.natAbs):Int).natAbs.gcd b.natAbs):Int).natAbs.gcd c.natAbs):Int))(n:SmlZ d):PCall P 50 [c4C a b c d,Q2 e] (.agg [.lit (.bool (decide ((↑((↑((↑((↑(e.natAbs.gcd a.natAbs):Int).natAbs.gcd b.natAbs):Int).natAbs.gcd c.natAbs):Int).natAbs.gcd d.natAbs):Int)<0))),.lit (.string (bytesOf (↑((↑((↑((↑(e.natAbs.gcd a.natAbs):Int).natAbs.gcd b.natAbs):Int).natAbs.gcd c.natAbs):Int).natAbs.gcd d.natAbs):Int).natAbs))]):=
 j3 (.c (lq 2 2) (.c (bq 0 4) (.c (lq 2 2) (.r 16 (z3b e a f g) (.c (lq 2 2) (.c (bq 1 4) (.c (lq 2 2) (.r 28 (z3b ((↑(e.natAbs.gcd a.natAbs):Int)) b i j) (.c (lq 2 2) (.c (bq 2 4) (.c (lq 2 2) (.r 40 (z3b ((↑((↑(e.natAbs.gcd a.natAbs):Int).natAbs.gcd b.natAbs):Int)) c k l) (.c (lq 2 2) (.c (bq 3 4) (.c (lq 2 2) (.r 52 (z3b ((↑((↑((↑(e.natAbs.gcd a.natAbs):Int).natAbs.gcd b.natAbs):Int).natAbs.gcd c.natAbs):Int)) d m n) (.c (lq 2 2) (.c (lq 2 2) .nil)))))))))))))))))) (by kernel_rfl)
theorem zgn(n:Int)(a:(-9223372036854775808:Int)≤n∧n≤9223372036854775807)(d:(-9223372036854775808:Int)≤1∧(1:Int)≤9223372036854775807):PCall P 14 [.lit (.int .i64 n)] (.agg [.lit (.bool (decide (n<0))),.lit (.string (bytesOf n.natAbs)),.lit (.bool false),.lit (.string {data:= #[]}),.lit (.bool false),.lit (.string {data:= #[]}),.lit (.bool false),.lit (.string {data:= #[]}),.lit (.bool false),.lit (.string (bytesOf 1))]):=
 j3 (.r 2 (z0j n a) (.r 4 (z0j (1:Int) d) (.c (lq 10 10) .nil))) (by kernel_rfl)
theorem zfj(a b:Int)(h1:((bytesOf b.natAbs).toList==[])=false)(h2:(!(bytesOf (sgn (decide (a<0)) (a.natAbs%b.natAbs)).natAbs).toList==[])=false)(d:Sml a.natAbs)(e:Sml b.natAbs)(f:b.natAbs≠0)(g:(dig 4294967296 a.natAbs).length<2^38)(i:(dig 4294967296 b.natAbs).length<2^38)(j:Sml (a.natAbs/b.natAbs))(k:Sml (a.natAbs%b.natAbs)):PCall P 68 [Q2 a,Q2 b] (.tup [.agg [.lit (.bool (decide (sgn (!decide (a<0)==decide (b<0)) (a.natAbs/b.natAbs)<0))),.lit (.string (bytesOf (sgn (!decide (a<0)==decide (b<0)) (a.natAbs/b.natAbs)).natAbs))],.agg [.lit (.bool (decide (sgn (decide (a<0)) (a.natAbs%b.natAbs)<0))),.lit (.string (bytesOf (sgn (decide (a<0)) (a.natAbs%b.natAbs)).natAbs))],.lit (.int .i64 0)]):=
 j3 (.r 6 (J3 a) (.r 10 (J3 b) (.b 19 h1 (.r 22 (V0 a.natAbs d) (.r 25 (V0 b.natAbs e) (.r 26 (z1L a.natAbs b.natAbs f g i) (.r 38 (U0 (a.natAbs/b.natAbs) (!decide (a<0)==decide (b<0)) j) (.r 42 (U0 (a.natAbs%b.natAbs) (decide (a<0)) k) (.c (lq 2 2) (.c (lq 2 2) (.b 48 h2 (.c (lq 2 2) (.c (lq 2 2) .nil))))))))))))) (by kernel_rfl)
theorem Sml.gcd{x y:Nat}(hx:Sml x)(hy:Sml y):Sml (Nat.gcd x y):=by
 rcases Nat.eq_zero_or_pos x with h|h
 · subst h;rw[Nat.gcd_zero_left];exact hy
 · exact hx.mono (Nat.gcd_le_left _ h)
theorem z0W(a b c d e:Int)(h0:SmlZ a)(h1:SmlZ b)(h2:SmlZ c)(h3:SmlZ d)(h4:SmlZ e):PCall P 50 [c4C a b c d,Q2 e] (Q2 (Z3 a b c d e:Nat)):=by
 have g1:Sml (Nat.gcd e.natAbs a.natAbs):=Sml.gcd h4 h0
 have g2:=Sml.gcd g1 h1
 have g3:=Sml.gcd g2 h2
 have:=z9q a b c d e h4 h0 (by simpa[SmlZ]using g1) h1 (by simpa[SmlZ]using g2) h2 (by simpa[SmlZ]using g3) h3
 simp only[Int.natAbs_natCast]at this
 exact this
theorem X9(n:Int)(h: -9223372036854775808≤n∧n≤9223372036854775807):PCall P 14 [J1 n] (Z1 (K.ofInt n)):=zgn n h (by decide)
theorem zb2(a b:Int)(ha:SmlZ a)(hb:SmlZ b)(hb0:b≠0)(hd:b∣a):PCall P 68 [Q2 a,Q2 b] (.tup [Q2 (a/b),Q2 0,J1 0]):=by
 have hl1:=ha.dig32
 have hl2:=hb.dig32
 have hmod:a.natAbs%b.natAbs=0:=Nat.mod_eq_zero_of_dvd (Int.natAbs_dvd_natAbs.2 hd)
 have hs0:sgn (decide (a<0)) 0=0:=by unfold sgn;split<;>rfl
 have:=zfj a b (by rw[Y4];simpa using hb0) (by rw[hmod,hs0,Y4];rfl) ha hb (by omega) (by simp only[B32]at*;omega) (by simp only[B32]at*;omega) (ha.mono (Nat.div_le_self _ _)) (by rw[hmod];exact Sml.of_lt (k:=1) (by decide) (by decide))
 rw[hmod,hs0]at this
 obtain⟨c,rfl⟩:=hd
 have hq:sgn (!(decide (b*c<0)==decide (b<0))) ((b*c).natAbs/b.natAbs)=b*c/b:=by
  rw[Int.mul_ediv_cancel_left _ hb0,Int.natAbs_mul,Nat.mul_div_cancel_left _ (by omega)]
  rcases Int.lt_trichotomy b 0 with h|h|h
  · rcases Int.lt_trichotomy c 0 with k|k|k
    · have:=Int.mul_pos_of_neg_of_neg h k
      rw[decide_eq_false (by omega),decide_eq_true h];simp only[sgn];simp;omega
    · subst k;simp[sgn]
    · have:=Int.mul_neg_of_neg_of_pos h k
      rw[decide_eq_true this,decide_eq_true h];simp only[sgn];simp;omega
  · exact absurd h hb0
  · rcases Int.lt_trichotomy c 0 with k|k|k
    · have:=Int.mul_neg_of_pos_of_neg h k
      rw[decide_eq_true this,decide_eq_false (by omega)];simp only[sgn];simp;omega
    · subst k;simp[sgn]
    · have:=Int.mul_pos h k
      rw[decide_eq_false (by omega),decide_eq_false (by omega)];simp only[sgn];simp;omega
 rw[hq]at this
 exact this
def kZ(x:K):Nat→Int
 |0=>x.c0
 |1=>x.c1
 |2=>x.c2
 |3=>x.c3
 |_=>x.d
def kB(x:K)(i:Nat):Bool:=decide (kZ x i<0)
def kS(x:K)(i:Nat):ByteArray:=bytesOf (kZ x i).natAbs
theorem zdl(z:Int):zOf (decide (z<0)) (bytesOf z.natAbs)=z:=by
 unfold zOf
 rw[z02]
 by_cases h:z<0
 · rw[decide_eq_true h];simp;omega
 · rw[decide_eq_false h];simp;omega
theorem z4B(z:Int):Q0 (decide (z<0)) (bytesOf z.natAbs)=true:=by
 rw[Q0]
 by_cases h:z=0
 · subst h;rfl
 · have:(bytesOf z.natAbs).size≠0:=by rw[Ne,X4];omega
   rw[if_neg this]
   have:=z2g (n:=z.natAbs) (by omega)
   rw[decide_eq_true this]
def Sm3(x:K):Prop:= ∀i,i<5→(kZ x i).natAbs<256^3
theorem Sm3.ok{x:K}(h:Sm3 x): ∀i,i<5→zhr (kB x) (kS x) i:=fun i hi=>⟨z0o.2 (h i hi),z4B _⟩
theorem zeT(n:Int)(a:(-9223372036854775808:Int)≤n∧n≤9223372036854775807)(d:(-9223372036854775808:Int)≤1∧(1:Int)≤9223372036854775807):PCall P 18 [J1 n] (.agg [.lit (.bool (decide (n<0))),.lit (.string (bytesOf n.natAbs)),.lit (.bool false),.lit (.string {data:= #[]}),.lit (.bool false),.lit (.string {data:= #[]}),.lit (.bool false),.lit (.string {data:= #[]}),.lit (.bool false),.lit (.string (bytesOf 1))]):=
 j3 (.r 2 (z6V n a) (.r 4 (z6V (1:Int) d) (.c (lq 10 10) .nil))) (by kernel_rfl)
theorem Sm3.lt{x:K}(h:Sm3 x): ∀i,i<5→(kZ x i).natAbs<2^63:=fun i hi=>Nat.lt_trans (h i hi) (by decide)
theorem z3N(n:Int)(h: -9223372036854775808≤n∧n≤9223372036854775807):PCall P 18 [J1 n] (Z1 (K.ofInt n)):=zeT n h (by decide)
theorem Sm3.neg{x:K}(h:Sm3 x):Sm3 (-x):=by
 intro i hi
 have:i=0∨i=1∨i=2∨i=3∨i=4:=by omega
 rcases this with rfl|rfl|rfl|rfl|rfl
 · show(-x.c0).natAbs<_;rw[Int.natAbs_neg];exact h 0 (by decide)
 · show(-x.c1).natAbs<_;rw[Int.natAbs_neg];exact h 1 (by decide)
 · show(-x.c2).natAbs<_;rw[Int.natAbs_neg];exact h 2 (by decide)
 · show(-x.c3).natAbs<_;rw[Int.natAbs_neg];exact h 3 (by decide)
 · exact h 4 (by decide)
def v2F:Nat→Nat→Nat
 |0,_=>0
 |f+1,n=>if n%2=1 then 0 else v2F f (n/2)+1
def v2(n:Nat):Nat:=v2F n n
theorem sgn_mul{a b:Int}:(if(!(decide (a<0)==decide (b<0)))=true then-((a.natAbs*b.natAbs:Nat):Int)else((a.natAbs*b.natAbs:Nat):Int))=a*b:=by
 have e:(a*b).natAbs=a.natAbs*b.natAbs:=Int.natAbs_mul a b
 rw[←e]
 rcases Int.lt_or_le a 0 with ha|ha<;>rcases Int.lt_or_le b 0 with hb|hb
 · have hp:0<a*b:=Int.mul_pos_of_neg_of_neg ha hb
   generalize a*b=p at*
   rw[decide_eq_true ha,decide_eq_true hb,if_neg (by decide)];omega
 · have hp:a*b≤0:=Int.mul_nonpos_of_nonpos_of_nonneg (by omega) hb
   generalize a*b=p at*
   rw[decide_eq_true ha,decide_eq_false (by omega),if_pos (by decide)];omega
 · have hp:a*b≤0:=Int.mul_nonpos_of_nonneg_of_nonpos ha (by omega)
   generalize a*b=p at*
   rw[decide_eq_false (by omega),decide_eq_true hb,if_pos (by decide)];omega
 · have hp:0≤a*b:=Int.mul_nonneg ha hb
   generalize a*b=p at*
   rw[decide_eq_false (by omega),decide_eq_false (by omega),if_neg (by decide)];omega
theorem z4e{b:Bool}{s:ByteArray}(h:Q0 b s=true):s=bytesOf (Y5 s):=by
 have hs:=z2D s
 rw[←z85]
 unfold Q0 at h
 by_cases h0:s.size=0
 · have:z22 s=[]:=List.length_eq_zero_iff.1 (by rw[V5];exact h0)
   rw[this]at hs ⊢
   exact hs.symm
 · rw[if_neg h0,decide_eq_true_eq]at h
   have hne:z22 s≠[]:=by
    intro e
    have:=V5 s
    rw[e]at this
    exact h0 this.symm
   have hc:=W4 hne
   generalize (z22 s).take ((z22 s).length-1)=l at hc
   generalize hx:(z22 s).getD ((z22 s).length-1) 0=x at hc
   have hf:=z1V l x
   rw[←hc,hs]at hf
   rw[hf]at h
   have hx0:x≠0:=by rintro rfl;exact h rfl
   have:tz (z22 s)=z22 s:=by rw[hc];exact z1m hx0 l
   rw[this,hs]
theorem z0n{b:Bool}{s:ByteArray}(h:Q0 b s=true):s=bytesOf (Y5 s)∧b=decide (zOf b s<0)∧(zOf b s).natAbs=Y5 s:=by
 refine⟨z4e h,?_,?_⟩
 · cases b
   · simp only[zOf,Bool.false_eq_true,if_false]
     exact(decide_eq_false (by omega)).symm
   · have hz : Y5 s ≠ 0 := by
       intro e
       have h1:=z4e h
       rw[e]at h1
       rw[h1]at h
       revert h
       decide
     simp only[zOf,if_true]
     exact(decide_eq_true (by omega)).symm
 · cases b<;>simp only[zOf,Bool.false_eq_true,if_false,if_true]<;>omega
theorem z3s{b:Bool}{s:ByteArray}(h:Q0 b s=true):CV.agg [.lit (.bool b),z08 s]=Q2 (zOf b s):=by
 obtain⟨h1,h2,h3⟩:=z0n h
 unfold Q2
 rw[←h2,h3,←h1]
abbrev r5(b0 b1 b2 b3 b4:Bool)(s0 s1 s2 s3 s4:ByteArray):CV:= .agg [.lit (.bool b0),z08 s0,.lit (.bool b1),z08 s1,.lit (.bool b2),z08 s2,.lit (.bool b3),z08 s3,.lit (.bool b4),z08 s4]
theorem zfR(b0 b1 b2 b3 b4:Bool)(s0 s1 s2 s3 s4:ByteArray)(h1:(Q0 b0 s0)=true)(h2:(Q0 b1 s1)=true)(h3:(Q0 b2 s2)=true)(h4:(Q0 b3 s3)=true)(h5:(Q0 b4 s4)=false):PCall P 28 [r5 b0 b1 b2 b3 b4 s0 s1 s2 s3 s4] (.lit (.bool false)):=
 j3 (.c (bq 0 4) (.c (lq 2 2) (.r 12 ((Q5 b0 s0).eqB h1) (.c (bq 1 4) (.c (lq 2 2) (.r 24 ((Q5 b1 s1).eqB h2) (.c (bq 2 4) (.c (lq 2 2) (.r 36 ((Q5 b2 s2).eqB h3) (.c (bq 3 4) (.c (lq 2 2) (.r 48 ((Q5 b3 s3).eqB h4) (.r 58 ((Q5 b4 s4).eqB h5) .nil))))))))))))) (by kernel_rfl)
theorem zfN(b0 b1 b2 b3 b4:Bool)(s0 s1 s2 s3 s4:ByteArray)(h1:(Q0 b0 s0)=true)(h2:(Q0 b1 s1)=true)(h3:(Q0 b2 s2)=true)(h4:(Q0 b3 s3)=false):PCall P 28 [r5 b0 b1 b2 b3 b4 s0 s1 s2 s3 s4] (.lit (.bool false)):=
 j3 (.c (bq 0 4) (.c (lq 2 2) (.r 12 ((Q5 b0 s0).eqB h1) (.c (bq 1 4) (.c (lq 2 2) (.r 24 ((Q5 b1 s1).eqB h2) (.c (bq 2 4) (.c (lq 2 2) (.r 36 ((Q5 b2 s2).eqB h3) (.c (bq 3 4) (.c (lq 2 2) (.r 48 ((Q5 b3 s3).eqB h4) .nil)))))))))))) (by kernel_rfl)
theorem zeC(b0 b1 b2 b3 b4:Bool)(s0 s1 s2 s3 s4:ByteArray)(h1:(Q0 b0 s0)=true)(h2:(Q0 b1 s1)=true)(h3:(Q0 b2 s2)=false):PCall P 28 [r5 b0 b1 b2 b3 b4 s0 s1 s2 s3 s4] (.lit (.bool false)):=
 j3 (.c (bq 0 4) (.c (lq 2 2) (.r 12 ((Q5 b0 s0).eqB h1) (.c (bq 1 4) (.c (lq 2 2) (.r 24 ((Q5 b1 s1).eqB h2) (.c (bq 2 4) (.c (lq 2 2) (.r 36 ((Q5 b2 s2).eqB h3) .nil))))))))) (by kernel_rfl)
theorem zf3(b0 b1 b2 b3 b4:Bool)(s0 s1 s2 s3 s4:ByteArray)(h1:(Q0 b0 s0)=true)(h2:(Q0 b1 s1)=false):PCall P 28 [r5 b0 b1 b2 b3 b4 s0 s1 s2 s3 s4] (.lit (.bool false)):=
 j3 (.c (bq 0 4) (.c (lq 2 2) (.r 12 ((Q5 b0 s0).eqB h1) (.c (bq 1 4) (.c (lq 2 2) (.r 24 ((Q5 b1 s1).eqB h2) .nil)))))) (by kernel_rfl)
theorem zew(b0 b1 b2 b3 b4:Bool)(s0 s1 s2 s3 s4:ByteArray)(h1:(Q0 b0 s0)=false):PCall P 28 [r5 b0 b1 b2 b3 b4 s0 s1 s2 s3 s4] (.lit (.bool false)):=
 j3 (.c (bq 0 4) (.c (lq 2 2) (.r 12 ((Q5 b0 s0).eqB h1) .nil))) (by kernel_rfl)
theorem zaz(a b:Int)(d:SmlZ a)(e:SmlZ b)(f:b≠0)(g:b∣a):PCall P 57 [Q2 a,Q2 b] (.agg [.lit (.bool (decide (a/b<0))),.lit (.string (bytesOf (a/b).natAbs))]):=
 j3 (.r 5 (zb2 a b d e f g) (.c (lq 2 2) (.c (lq 2 2) (.c (lq 2 2) .nil)))) (by kernel_rfl)
theorem X7(a b:Int)(ha:SmlZ a)(hb:SmlZ b)(hb0:b≠0)(hd:b∣a):PCall P 57 [Q2 a,Q2 b] (Q2 (a/b)):=zaz a b ha hb hb0 hd
theorem zeo(a b c d e:Int)(h1:(decide (e.sign<0))=true)(h2:(decide (-(↑(Z3 a b c d e):Int)<0)==false&&(bytesOf (-(↑(Z3 a b c d e):Int)).natAbs==bytesOf 1&&true))=false)(f:SmlZ a)(g:SmlZ b)(i:SmlZ c)(j:SmlZ d)(k:SmlZ e)(l:(-9223372036854775808:Int)≤1∧(1:Int)≤9223372036854775807)(m:SmlZ a)(n:SmlZ (-(↑(Z3 a b c d e):Int)))(o: -(↑(Z3 a b c d e):Int)≠0)(p: -(↑(Z3 a b c d e):Int)∣a)(q:SmlZ b)(s:SmlZ (-(↑(Z3 a b c d e):Int)))(t: -(↑(Z3 a b c d e):Int)≠0)(u: -(↑(Z3 a b c d e):Int)∣b)(v:SmlZ c)(w:SmlZ (-(↑(Z3 a b c d e):Int)))(x: -(↑(Z3 a b c d e):Int)≠0)(y: -(↑(Z3 a b c d e):Int)∣c)(z:SmlZ d)(a0:SmlZ (-(↑(Z3 a b c d e):Int)))(a1: -(↑(Z3 a b c d e):Int)≠0)(a2: -(↑(Z3 a b c d e):Int)∣d)(a3:SmlZ e)(a4:SmlZ (-(↑(Z3 a b c d e):Int)))(a5: -(↑(Z3 a b c d e):Int)≠0)(a6: -(↑(Z3 a b c d e):Int)∣e):PCall P 36 [c4C a b c d,Q2 e] (.agg [.lit (.bool (decide (a/ -(↑(Z3 a b c d e):Int)<0))),.lit (.string (bytesOf (a/ -(↑(Z3 a b c d e):Int)).natAbs)),.lit (.bool (decide (b/ -(↑(Z3 a b c d e):Int)<0))),.lit (.string (bytesOf (b/ -(↑(Z3 a b c d e):Int)).natAbs)),.lit (.bool (decide (c/ -(↑(Z3 a b c d e):Int)<0))),.lit (.string (bytesOf (c/ -(↑(Z3 a b c d e):Int)).natAbs)),.lit (.bool (decide (d/ -(↑(Z3 a b c d e):Int)<0))),.lit (.string (bytesOf (d/ -(↑(Z3 a b c d e):Int)).natAbs)),.lit (.bool (decide (e/ -(↑(Z3 a b c d e):Int)<0))),.lit (.string (bytesOf (e/ -(↑(Z3 a b c d e):Int)).natAbs))]):=
 j3 (.r 5 (z0W a b c d e f g i j k) (.c (lq 2 2) (.r 9 (z05 e) (.b 11 h1 (.r 13 (z03 ((↑(Z3 a b c d e):Int))) (.c (lq 2 2) (.r 16 (z0j (1:Int) l) (.b 18 h2 (.c (bq 0 4) (.r 30 (X7 a (-(↑(Z3 a b c d e):Int)) m n o p) (.c (bq 0 4) (.c (lq 2 8) (.c (bq 1 4) (.r 45 (X7 b (-(↑(Z3 a b c d e):Int)) q s t u) (.c (bq 1 4) (.c (lq 4 8) (.c (bq 2 4) (.r 60 (X7 c (-(↑(Z3 a b c d e):Int)) v w x y) (.c (bq 2 4) (.c (lq 6 8) (.c (bq 3 4) (.r 75 (X7 d (-(↑(Z3 a b c d e):Int)) z a0 a1 a2) (.c (bq 3 4) (.c (lq 8 8) (.r 86 (X7 e (-(↑(Z3 a b c d e):Int)) a3 a4 a5 a6) (.c (lq 10 10) .nil)))))))))))))))))))))))))) (by kernel_rfl)
theorem zeB(a b c d e:Int)(h1:(decide (e.sign<0))=false)(h2:(decide ((↑(Z3 a b c d e):Int)<0)==false&&(bytesOf (↑(Z3 a b c d e):Int).natAbs==bytesOf 1&&true))=true)(f:SmlZ a)(g:SmlZ b)(i:SmlZ c)(j:SmlZ d)(k:SmlZ e)(l:(-9223372036854775808:Int)≤1∧(1:Int)≤9223372036854775807):PCall P 36 [c4C a b c d,Q2 e] (.agg [.lit (.bool (decide (a<0))),.lit (.string (bytesOf a.natAbs)),.lit (.bool (decide (b<0))),.lit (.string (bytesOf b.natAbs)),.lit (.bool (decide (c<0))),.lit (.string (bytesOf c.natAbs)),.lit (.bool (decide (d<0))),.lit (.string (bytesOf d.natAbs)),.lit (.bool (decide (e<0))),.lit (.string (bytesOf e.natAbs))]):=
 j3 (.r 5 (z0W a b c d e f g i j k) (.c (lq 2 2) (.r 9 (z05 e) (.b 11 h1 (.r 13 (z0j (1:Int) l) (.b 15 h2 (.c (lq 10 10) .nil))))))) (by kernel_rfl)
theorem zg2(a b c d e:Int)(h1:(decide (e.sign<0))=false)(h2:(decide ((↑(Z3 a b c d e):Int)<0)==false&&(bytesOf (↑(Z3 a b c d e):Int).natAbs==bytesOf 1&&true))=false)(f:SmlZ a)(g:SmlZ b)(i:SmlZ c)(j:SmlZ d)(k:SmlZ e)(l:(-9223372036854775808:Int)≤1∧(1:Int)≤9223372036854775807)(m:SmlZ a)(n:SmlZ (↑(Z3 a b c d e):Int))(o:(↑(Z3 a b c d e):Int)≠0)(p:(↑(Z3 a b c d e):Int)∣a)(q:SmlZ b)(s:SmlZ (↑(Z3 a b c d e):Int))(t:(↑(Z3 a b c d e):Int)≠0)(u:(↑(Z3 a b c d e):Int)∣b)(v:SmlZ c)(w:SmlZ (↑(Z3 a b c d e):Int))(x:(↑(Z3 a b c d e):Int)≠0)(y:(↑(Z3 a b c d e):Int)∣c)(z:SmlZ d)(a0:SmlZ (↑(Z3 a b c d e):Int))(a1:(↑(Z3 a b c d e):Int)≠0)(a2:(↑(Z3 a b c d e):Int)∣d)(a3:SmlZ e)(a4:SmlZ (↑(Z3 a b c d e):Int))(a5:(↑(Z3 a b c d e):Int)≠0)(a6:(↑(Z3 a b c d e):Int)∣e):PCall P 36 [c4C a b c d,Q2 e] (.agg [.lit (.bool (decide (a/(↑(Z3 a b c d e):Int)<0))),.lit (.string (bytesOf (a/(↑(Z3 a b c d e):Int)).natAbs)),.lit (.bool (decide (b/(↑(Z3 a b c d e):Int)<0))),.lit (.string (bytesOf (b/(↑(Z3 a b c d e):Int)).natAbs)),.lit (.bool (decide (c/(↑(Z3 a b c d e):Int)<0))),.lit (.string (bytesOf (c/(↑(Z3 a b c d e):Int)).natAbs)),.lit (.bool (decide (d/(↑(Z3 a b c d e):Int)<0))),.lit (.string (bytesOf (d/(↑(Z3 a b c d e):Int)).natAbs)),.lit (.bool (decide (e/(↑(Z3 a b c d e):Int)<0))),.lit (.string (bytesOf (e/(↑(Z3 a b c d e):Int)).natAbs))]):=
 j3 (.r 5 (z0W a b c d e f g i j k) (.c (lq 2 2) (.r 9 (z05 e) (.b 11 h1 (.r 13 (z0j (1:Int) l) (.b 15 h2 (.c (bq 0 4) (.r 27 (X7 a ((↑(Z3 a b c d e):Int)) m n o p) (.c (bq 0 4) (.c (lq 2 8) (.c (bq 1 4) (.r 42 (X7 b ((↑(Z3 a b c d e):Int)) q s t u) (.c (bq 1 4) (.c (lq 4 8) (.c (bq 2 4) (.r 57 (X7 c ((↑(Z3 a b c d e):Int)) v w x y) (.c (bq 2 4) (.c (lq 6 8) (.c (bq 3 4) (.r 72 (X7 d ((↑(Z3 a b c d e):Int)) z a0 a1 a2) (.c (bq 3 4) (.c (lq 8 8) (.r 83 (X7 e ((↑(Z3 a b c d e):Int)) a3 a4 a5 a6) (.c (lq 10 10) .nil)))))))))))))))))))))))) (by kernel_rfl)
theorem zby(x y:ByteArray):(x==y)=decide (x=y):=by
 cases x with|mk a=>cases y with|mk b=>
 have:((⟨a⟩:ByteArray)==⟨b⟩)=(a==b):=rfl
 rw[this]
 by_cases h:a=b
 · subst h;simp
 · simp[h]
theorem z23(m n:Nat):(bytesOf m==bytesOf n)=decide (m=n):=by
 rw[zby]
 exact decide_eq_decide.2 ⟨z3w,fun h=>by rw[h]⟩
theorem SmlZ.neg{a:Int}(h:SmlZ a):SmlZ (-a):=by simpa[SmlZ]using h
theorem z4Z(a b c d e:Int)(h0:SmlZ a)(h1:SmlZ b)(h2:SmlZ c)(h3:SmlZ d)(h4:SmlZ e)(he:e≠0):PCall P 36 [c4C a b c d,Q2 e] (Z1 (K.of a b c d e)):=by
 have hg:=z3q (a:=a) (b:=b) (c:=c) (d:=d) he
 have hgs:SmlZ (Z3 a b c d e:Nat):=by
  have g1:Sml (Nat.gcd e.natAbs a.natAbs):=Sml.gcd h4 h0
  have g2:=Sml.gcd (Sml.gcd (Sml.gcd g1 h1) h2) h3
  simpa[SmlZ,Z3]using g2
 obtain⟨d0,d1,d2,d3,d4⟩:=K.den_dvd a b c d e
 have hone:(-9223372036854775808:Int)≤1∧(1:Int)≤9223372036854775807:=by decide
 by_cases hn:e<0
 · have hden:K.den a b c d e= -(Z3 a b c d e:Int):=by unfold K.den;rw[if_pos hn]
   rw[hden]at d0 d1 d2 d3 d4
   have hs:(decide (e.sign<0))=true:=by rw[Int.sign_eq_neg_one_of_neg hn];rfl
   have hne: -(Z3 a b c d e:Int)≠0:=by omega
   have ht:(decide (-(Z3 a b c d e:Int)<0)==false&&(bytesOf (-(Z3 a b c d e:Int)).natAbs==bytesOf 1&&true))=false:=by
    rw[decide_eq_true (by omega)];rfl
   refine(zeo a b c d e hs ht h0 h1 h2 h3 h4 hone h0 hgs.neg hne d0 h1 hgs.neg hne d1 h2 hgs.neg hne d2 h3 hgs.neg hne d3 h4 hgs.neg hne d4).eq ?_
   unfold K.of
   simp only[dif_neg he,hden]
   rfl
 · have hden:K.den a b c d e=(Z3 a b c d e:Int):=by unfold K.den;rw[if_neg hn]
   rw[hden]at d0 d1 d2 d3 d4
   have hs:(decide (e.sign<0))=false:=by rw[Int.sign_eq_one_of_pos (by omega)];rfl
   have hne:(Z3 a b c d e:Int)≠0:=by omega
   have ht:(decide ((Z3 a b c d e:Int)<0)==false&&(bytesOf (Z3 a b c d e:Int).natAbs==bytesOf 1&&true))=decide (Z3 a b c d e=1):=by
    rw[decide_eq_false (by omega),Int.natAbs_natCast,z23];simp
   by_cases h1':Z3 a b c d e=1
   · refine(zeB a b c d e hs (by rw[ht];simpa using h1') h0 h1 h2 h3 h4 hone).eq ?_
     unfold K.of
     simp only[dif_neg he,hden,h1']
     exact zbJ (by simp) (by simp) (by simp) (by simp) (by simp)
   · refine(zg2 a b c d e hs (by rw[ht];simpa using h1') h0 h1 h2 h3 h4 hone h0 hgs hne d0 h1 hgs hne d1 h2 hgs hne d2 h3 hgs hne d3 h4 hgs hne d4).eq ?_
     unfold K.of
     simp only[dif_neg he,hden]
     rfl
end Go.Fw
