/- A part of the proof that the law returns true for every input: an executor for the model's code, and what functions of the program compute. -/
import Derived.Test.YtcafjpldfnegiaaGreatDoorB11
import Derived.Test.YtcafjpldfnegiaaGreatDoorB15
import Derived.Test.YtcafjpldfnegiaaGreatDoorB35
import Derived.Test.YtcafjpldfnegiaaGreatDoorB39
import Derived.Test.YtcafjpldfnegiaaGreatDoorB41
import Derived.Test.YtcafjpldfnegiaaGreatDoorB42
import Derived.Test.YtcafjpldfnegiaaGreatDoorB43
import Derived.KernelRfl
open Go
namespace Go.Fw
set_option maxRecDepth 100000
noncomputable def ziB(l:List (Int×Int))(k:Nat)(s:S4):St:=⟨J3 96 [(2,.ptr 0 0),(5,.ptr 1 0),(6,.ptr 2 0),(7,.cv (.lit (.func (.func 140) #[] #[]))),(27,.cv (rdV l)),(28,.cv (j6 l.length)),(29,.cv (j6 k))],[some (vnM VN.zero),some (v3M (kv s.a) (kv s.b) (kv s.c)),some (vnM (kv s.d))]⟩
theorem zfU{R:Goal}(hn:J0 R.n [0,1,2]=true)(l:List (Int×Int))(g:z5Y l=true)(hR:Ok P 60 (loopHead P 60 0) (ziB l l.length (z0g l)) R):Ok P 60 (loopHead P 60 0) (ziB l 0 .zero) R:=by
 have hl:=(z7R g).1
 have key:=z8V (fun k=>Ok P 60 (loopHead P 60 0) (ziB l k (z0g (l.take k))) R) l.length ?_ ?_
 · exact key
 · intro k hk h
   obtain⟨⟨h1,h2,h3⟩,h4⟩:=z95 g k (by omega)
   have hb:=(z7R g).2 k hk
   have up: ∀{v:V3} {n:Nat},sz3 v n→n≤1000000→(kv v).raw 1000000=true:=fun hv hn=>zd0 (z0J hv hn)
   have rr:(X8 l[k].1).raw 100000=true:=VN.raw_mono (z9q _) (by decide)
   obtain⟨rx,ry,rz⟩:=z07.1 rr
   refine zhG l _ _ _ _ k l[k].1 l[k].2 (decide_eq_true (by omega)) (up h1 (by omega)) rr rx (up h2 (by omega)) rr ry (up h3 (by omega)) rr rz (by omega) (up h4 (by omega)) rr (z6r (Nat.le_trans (z87 hb) (by decide))) (by omega) (z1m z1C hk) z55 z55 z55 z55 hn ?_
   rw[znR,znT,zmz,zlO,w64 (by omega)]
   rw[z83 hk]at h
   exact h
 · rw[List.take_length];exact hR
noncomputable def z3a(l:List (Int×Int)):V3:=⟨K.div (z7o (z0g l).d (z0g l).b (z0g l).c) (z7o (z0g l).a (z0g l).b (z0g l).c),K.div (z7o (z0g l).a (z0g l).d (z0g l).c) (z7o (z0g l).a (z0g l).b (z0g l).c),K.div (z7o (z0g l).a (z0g l).b (z0g l).d) (z7o (z0g l).a (z0g l).b (z0g l).c)⟩
noncomputable def z4F(l:List (Int×Int)):VN×Int:=if z5Y l then(if K.sgn (z7o (z0g l).a (z0g l).b (z0g l).c)=0 then(.zero,20)else(kv (z3a l),0))else(.zero,1)
theorem zpk{x y:K}(h:K.sgn y≠0):((z1R (kN x) (kN y)).2 != 0)=false:=by
 unfold z1R
 rw[z16,z16]
 dsimp only
 rw[if_neg h];rfl
theorem za4{l:List (Int×Int)}(h:z5Y l=true)(hl:l.length≤12):(sz3 (z0g l).a 61∧sz3 (z0g l).b 61∧sz3 (z0g l).c 61)∧sz3 (z0g l).d 61:=by
 obtain⟨⟨h1,h2,h3⟩,h4⟩:=z95 h l.length (Nat.le_refl _)
 rw[List.take_length]at h1 h2 h3 h4
 exact⟨⟨z0J h1 (by omega),z0J h2 (by omega),z0J h3 (by omega)⟩,z0J h4 (by omega)⟩
theorem zfL(l:List (Int×Int))(hl:l.length≤12):PCall P 60 [rdV l] (.tup [(z4F l).1.c,j6 (z4F l).2]):=by
 unfold z4F
 cases g:z5Y l
 · exact ziQ l g (by omega)
 rw[if_pos rfl]
 obtain⟨⟨h1,h2,h3⟩,h4⟩:=za4 g hl
 have t: ∀{v:V3},sz3 v 61→(kv v).raw 1000=true:=fun hv=>zd0 (z0J hv (by decide))
 have ed:z8L (W1 (kv (z0g l).a) (kv (z0g l).b) (kv (z0g l).c))=K.sgn (z7o (z0g l).a (z0g l).b (z0g l).c):=by rw[z4A,zcb]
 have dr: ∀{a b c:V3},sz3 a 61→sz3 b 61→sz3 c 61→(W1 (kv a) (kv b) (kv c)).raw 1000000=true:=fun ha hb hc=>by
  rw[z4A]
  exact z5b (Nat.le_trans (z7L ha hb hc) (by decide))
 refine X6 (zol l g (by omega) (by decide) (by decide) (by decide) ?_)
 rw[zq9]
 refine zfU rfl l g ?_
 by_cases hs:K.sgn (z7o (z0g l).a (z0g l).b (z0g l).c)=0
 · rw[if_pos hs]
   exact zmy l _ _ _ _ l.length (decide_eq_false (by omega)) (beq_iff_eq.2 (ed.trans hs)) (t h1) (t h2) (t h3) (dr h1 h2 h3) rfl rfl
 · rw[if_neg hs]
   have ne: ∀x y z:V3,((z1R (W1 (kv x) (kv y) (kv z)) (W1 (kv (z0g l).a) (kv (z0g l).b) (kv (z0g l).c))).2 != 0)=false:=fun x y z=>by
    rw[z4A,z4A]
    exact zpk hs
   refine zkT l _ _ _ _ l.length (decide_eq_false (by omega)) (zqo (by rw[ed];exact hs)) (ne _ _ _) (ne _ _ _) (ne _ _ _) (t h1) (t h2) (t h3) (dr h1 h2 h3) (t h4) (t h2) (t h3) (dr h4 h2 h3) (dr h1 h2 h3) (t h1) (t h4) (t h3) (dr h1 h4 h3) (dr h1 h2 h3) (t h1) (t h2) (t h4) (dr h1 h2 h4) (dr h1 h2 h3) rfl rfl rfl rfl ?_
   rw[z4A,z4A,z4A,z4A,zbM _ _ hs,zbM _ _ hs,zbM _ _ hs]
   rfl
theorem znb:z4F [(0,7),(6,5),(12,3),(18,5)]=(oV 5 2 0,0):=by
 unfold z4F
 rw[if_pos (by decide),if_neg (by decide+kernel)]
 have e:z3a [(0,7),(6,5),(12,3),(18,5)]=⟨K.ofInt 5,K.ofInt 2,K.ofInt 0⟩:=by kernel_rfl
 rw[e]
 have o: ∀v:VN,v=⟨v.x,v.y,v.z⟩:=fun _=>rfl
 rw[o (oV 5 2 0),zpT,zpY,zpN,zft,zft,zft];rfl
theorem Fit4:PCall P 60 [.lst 4 [j6 0,j6 7,j6 6,j6 5,j6 12,j6 3,j6 18,j6 5]] (.tup [(oV 5 2 0).c,j6 0]):=by
 have h:=zfL [(0,7),(6,5),(12,3),(18,5)] (by decide)
 rw[znb]at h
 exact h
end Go.Fw
open Go
namespace Go.Fw
set_option maxRecDepth 100000
theorem zkP(_q:(rnB (oV (5:Int) (2:Int) (0:Int)).x (oV (5:Int) (2:Int) (0:Int)).x&&(rnB (oV (5:Int) (2:Int) (0:Int)).y (oV (5:Int) (2:Int) (0:Int)).y&&(rnB (oV (5:Int) (2:Int) (0:Int)).z (oV (5:Int) (2:Int) (0:Int)).z&&true)))=true)(s17_0:(-9223372036854775808:Int)≤(5:Int)∧(5:Int)≤(9223372036854775807:Int))(s17_1:(-9223372036854775808:Int)≤(2:Int)∧(2:Int)≤(9223372036854775807:Int))(s17_2:(-9223372036854775808:Int)≤(0:Int)∧(0:Int)≤(9223372036854775807:Int)):PCall P (59:FuncId) [] (CV.lit (Value.bool (rnB (oV (5:Int) (2:Int) (0:Int)).x (oV (5:Int) (2:Int) (0:Int)).x&&(rnB (oV (5:Int) (2:Int) (0:Int)).y (oV (5:Int) (2:Int) (0:Int)).y&&(rnB (oV (5:Int) (2:Int) (0:Int)).z (oV (5:Int) (2:Int) (0:Int)).z&&true))))):=
 j5 (.c (Go.Fw.Fit4) (.c (show [MV.cv (CV.lit (Value.int IntKind.i64 (0:Int))),MV.cv (CV.lit (Value.int IntKind.i64 (7:Int))),MV.cv (CV.lit (Value.int IntKind.i64 (6:Int))),MV.cv (CV.lit (Value.int IntKind.i64 (5:Int))),MV.cv (CV.lit (Value.int IntKind.i64 (12:Int))),MV.cv (CV.lit (Value.int IntKind.i64 (3:Int))),MV.cv (CV.lit (Value.int IntKind.i64 (18:Int))),MV.cv (CV.lit (Value.int IntKind.i64 (5:Int)))]=[MV.cv (CV.lit (Value.int IntKind.i64 (0:Int))),MV.cv (CV.lit (Value.int IntKind.i64 (7:Int))),MV.cv (CV.lit (Value.int IntKind.i64 (6:Int))),MV.cv (CV.lit (Value.int IntKind.i64 (5:Int))),MV.cv (CV.lit (Value.int IntKind.i64 (12:Int))),MV.cv (CV.lit (Value.int IntKind.i64 (3:Int))),MV.cv (CV.lit (Value.int IntKind.i64 (18:Int))),MV.cv (CV.lit (Value.int IntKind.i64 (5:Int)))]from rfl) (.c (show 30≤30 from(by decide)) (.c (Go.Fw.V4Of_r ((5:Int)) ((2:Int)) ((0:Int)) s17_0 s17_1 s17_2) (.o 6 (Or.k (CV.tup [z5D (oV (5:Int) (2:Int) (0:Int)).x (oV (5:Int) (2:Int) (0:Int)).y (oV (5:Int) (2:Int) (0:Int)).z,CV.lit (Value.int IntKind.i64 (0:Int))]) [[CV.lit (Value.int IntKind.i64 (0:Int)),CV.lit (Value.int IntKind.i64 (7:Int)),CV.lit (Value.int IntKind.i64 (6:Int)),CV.lit (Value.int IntKind.i64 (5:Int)),CV.lit (Value.int IntKind.i64 (12:Int)),CV.lit (Value.int IntKind.i64 (3:Int)),CV.lit (Value.int IntKind.i64 (18:Int)),CV.lit (Value.int IntKind.i64 (5:Int))]]) (.o 17 (Or.r (z5D (oV (5:Int) (2:Int) (0:Int)).x (oV (5:Int) (2:Int) (0:Int)).y (oV (5:Int) (2:Int) (0:Int)).z)) .nil)))))) (by kernel_rfl)
end Go.Fw
open Go
namespace Go.Fw
set_option maxRecDepth 100000
theorem z7e(x:RN):rnB x x=true:=ziu.2 rfl
end Go.Fw
open Go
namespace Go.Fw
set_option maxRecDepth 100000
theorem z9U(v:VN):(rnB v.x v.x&&(rnB v.y v.y&&(rnB v.z v.z&&true)))=true:=by
 rw[z7e,z7e,z7e];rfl
theorem z38:PCall P 59 [] (.lit (.bool true)):=(zkP (z9U _) (by decide) (by decide) (by decide)).eqB (z9U _)
end Go.Fw
open Go
namespace Go.Fw
set_option maxRecDepth 100000
def V3.dot'(v w:V3):K:=v.x*w.x+v.y*w.y+v.z*w.z
noncomputable def zbj(m:V3)(x:Int×Int):K:=K.ofInt x.2-V3.dot' m (z36 x.1)
theorem zod(m:V3)(x:Int×Int):z6B (kv m) x=kN (zbj m x):=by
 unfold z6B zbj V3.dot'
 rw[z7T,zft,show z50 (kv m) (kv (z36 x.1))=kN (m.x*(z36 x.1).x+m.y*(z36 x.1).y+m.z*(z36 x.1).z)from zcF _ _ _ _ _ _,zgG]
noncomputable def z9e(m:V3)(n:V3)(x:Int×Int):V3:=n.add ((z36 x.1).scale (zbj m x))
def S4.rest(s:S4)(m:V3):V3:=⟨s.d.x-(s.a.x*m.x+s.b.x*m.y+s.c.x*m.z),s.d.y-(s.a.y*m.x+s.b.y*m.y+s.c.y*m.z),s.d.z-(s.a.z*m.x+s.b.z*m.y+s.c.z*m.z)⟩
theorem z5r(d a b c r r0 r1 r2 o x y z:K):(d-(a*x+b*y+c*z))+r*(o-(x*r0+y*r1+z*r2))=(d+r*o)-((a+r*r0)*x+(b+r*r1)*y+(c+r*r2)*z):=
 (show ∀ρ:Nat→K,(ρ 0-(ρ 1*ρ 9+ρ 2*ρ 10+ρ 3*ρ 11))+ρ 4*(ρ 8-(ρ 9*ρ 5+ρ 10*ρ 6+ρ 11*ρ 7))=(ρ 0+ρ 4*ρ 8)-((ρ 1+ρ 4*ρ 5)*ρ 9+(ρ 2+ρ 4*ρ 6)*ρ 10+(ρ 3+ρ 4*ρ 7)*ρ 11)from fun ρ=>CR.ring ρ rfl) (CR.vr [d,a,b,c,r,r0,r1,r2,o,x,y,z])
theorem zaL(m:V3)(s:S4)(x:Int×Int):z9e m (s.rest m) x=(s.step x).rest m:=by
 unfold z9e S4.rest S4.step zbj V3.dot' V3.add V3.scale
 simp only
 rw[z5r,z5r,z5r]
theorem zqa(m:V3)(l:List (Int×Int)): ∀s:S4,l.foldl (z9e m) (s.rest m)=(l.foldl S4.step s).rest m:=by
 induction l with
 |nil=>intro s;rfl
 |cons x l ih=>intro s;rw[List.foldl_cons,List.foldl_cons,zaL,ih]
theorem z7Q(m:V3):S4.zero.rest m=⟨0,0,0⟩:=by
 have z: ∀x y z:K,(0:K)-(0*x+0*y+0*z)=0:=fun x y z=>(show ∀ρ:Nat→K,(0:K)-(0*ρ 0+0*ρ 1+0*ρ 2)=0 from fun ρ=>CR.ring ρ rfl) (CR.vr [x,y,z])
 unfold S4.rest S4.zero
 simp only
 rw[z]
theorem zgo (a1 a2 a3 b1 b2 b3 c1 c2 c3 d1 d2 d3 : K) :
    (a1*(b2*c3-b3*c2)+a2*(b3*c1-b1*c3)+a3*(b1*c2-b2*c1))*d1=a1*(d1*(b2*c3-b3*c2)+d2*(b3*c1-b1*c3)+d3*(b1*c2-b2*c1))+b1*(a1*(d2*c3-d3*c2)+a2*(d3*c1-d1*c3)+a3*(d1*c2-d2*c1))+c1*(a1*(b2*d3-b3*d2)+a2*(b3*d1-b1*d3)+a3*(b1*d2-b2*d1)):=
 (show ∀ρ:Nat→K,(ρ 0*(ρ 4*ρ 8-ρ 5*ρ 7)+ρ 1*(ρ 5*ρ 6-ρ 3*ρ 8)+ρ 2*(ρ 3*ρ 7-ρ 4*ρ 6))*ρ 9=ρ 0*(ρ 9*(ρ 4*ρ 8-ρ 5*ρ 7)+ρ 10*(ρ 5*ρ 6-ρ 3*ρ 8)+ρ 11*(ρ 3*ρ 7-ρ 4*ρ 6))+ρ 3*(ρ 0*(ρ 10*ρ 8-ρ 11*ρ 7)+ρ 1*(ρ 11*ρ 6-ρ 9*ρ 8)+ρ 2*(ρ 9*ρ 7-ρ 10*ρ 6))+ρ 6*(ρ 0*(ρ 4*ρ 11-ρ 5*ρ 10)+ρ 1*(ρ 5*ρ 9-ρ 3*ρ 11)+ρ 2*(ρ 3*ρ 10-ρ 4*ρ 9))from fun ρ=>CR.ring ρ rfl) (CR.vr [a1,a2,a3,b1,b2,b3,c1,c2,c3,d1,d2,d3])
theorem zfG (a1 a2 a3 b1 b2 b3 c1 c2 c3 d1 d2 d3 : K) :
    (a1*(b2*c3-b3*c2)+a2*(b3*c1-b1*c3)+a3*(b1*c2-b2*c1))*d2=a2*(d1*(b2*c3-b3*c2)+d2*(b3*c1-b1*c3)+d3*(b1*c2-b2*c1))+b2*(a1*(d2*c3-d3*c2)+a2*(d3*c1-d1*c3)+a3*(d1*c2-d2*c1))+c2*(a1*(b2*d3-b3*d2)+a2*(b3*d1-b1*d3)+a3*(b1*d2-b2*d1)):=
 (show ∀ρ:Nat→K,(ρ 0*(ρ 4*ρ 8-ρ 5*ρ 7)+ρ 1*(ρ 5*ρ 6-ρ 3*ρ 8)+ρ 2*(ρ 3*ρ 7-ρ 4*ρ 6))*ρ 10=ρ 1*(ρ 9*(ρ 4*ρ 8-ρ 5*ρ 7)+ρ 10*(ρ 5*ρ 6-ρ 3*ρ 8)+ρ 11*(ρ 3*ρ 7-ρ 4*ρ 6))+ρ 4*(ρ 0*(ρ 10*ρ 8-ρ 11*ρ 7)+ρ 1*(ρ 11*ρ 6-ρ 9*ρ 8)+ρ 2*(ρ 9*ρ 7-ρ 10*ρ 6))+ρ 7*(ρ 0*(ρ 4*ρ 11-ρ 5*ρ 10)+ρ 1*(ρ 5*ρ 9-ρ 3*ρ 11)+ρ 2*(ρ 3*ρ 10-ρ 4*ρ 9))from fun ρ=>CR.ring ρ rfl) (CR.vr [a1,a2,a3,b1,b2,b3,c1,c2,c3,d1,d2,d3])
theorem zaQ (a1 a2 a3 b1 b2 b3 c1 c2 c3 d1 d2 d3 : K) :
    (a1*(b2*c3-b3*c2)+a2*(b3*c1-b1*c3)+a3*(b1*c2-b2*c1))*d3=a3*(d1*(b2*c3-b3*c2)+d2*(b3*c1-b1*c3)+d3*(b1*c2-b2*c1))+b3*(a1*(d2*c3-d3*c2)+a2*(d3*c1-d1*c3)+a3*(d1*c2-d2*c1))+c3*(a1*(b2*d3-b3*d2)+a2*(b3*d1-b1*d3)+a3*(b1*d2-b2*d1)):=
 (show ∀ρ:Nat→K,(ρ 0*(ρ 4*ρ 8-ρ 5*ρ 7)+ρ 1*(ρ 5*ρ 6-ρ 3*ρ 8)+ρ 2*(ρ 3*ρ 7-ρ 4*ρ 6))*ρ 11=ρ 2*(ρ 9*(ρ 4*ρ 8-ρ 5*ρ 7)+ρ 10*(ρ 5*ρ 6-ρ 3*ρ 8)+ρ 11*(ρ 3*ρ 7-ρ 4*ρ 6))+ρ 5*(ρ 0*(ρ 10*ρ 8-ρ 11*ρ 7)+ρ 1*(ρ 11*ρ 6-ρ 9*ρ 8)+ρ 2*(ρ 9*ρ 7-ρ 10*ρ 6))+ρ 8*(ρ 0*(ρ 4*ρ 11-ρ 5*ρ 10)+ρ 1*(ρ 5*ρ 9-ρ 3*ρ 11)+ρ 2*(ρ 3*ρ 10-ρ 4*ρ 9))from fun ρ=>CR.ring ρ rfl) (CR.vr [a1,a2,a3,b1,b2,b3,c1,c2,c3,d1,d2,d3])
theorem z6L{D a b c p q r d:K}(h:D≠0)(e:D*d=a*(D*p)+b*(D*q)+c*(D*r)):d-(a*p+b*q+c*r)=0:=by
 have e2:D*(d-(a*p+b*q+c*r))=D*0:=by
  have s:D*(d-(a*p+b*q+c*r))=D*d-(a*(D*p)+b*(D*q)+c*(D*r)):=(show ∀ρ:Nat→K,ρ 0*(ρ 7-(ρ 1*ρ 4+ρ 2*ρ 5+ρ 3*ρ 6))=ρ 0*ρ 7-(ρ 1*(ρ 0*ρ 4)+ρ 2*(ρ 0*ρ 5)+ρ 3*(ρ 0*ρ 6))from fun ρ=>CR.ring ρ rfl) (CR.vr [D,a,b,c,p,q,r,d])
  rw[s,e,zmf]
  exact(show ∀ρ:Nat→K,(0:K)=ρ 0*0 from fun ρ=>CR.ring ρ rfl) (CR.vr [D])
 exact K.cancel h e2
theorem zeE{l:List (Int×Int)}(h:K.sgn (z7o (z0g l).a (z0g l).b (z0g l).c)≠0):(z0g l).rest (z3a l)=⟨0,0,0⟩:=by
 have hD:z7o (z0g l).a (z0g l).b (z0g l).c≠0:=fun e=>h (K.sgn_zero.2 e)
 unfold S4.rest z3a
 simp only
 generalize hs:z0g l=s at*
 rw[z6L hD ?_,z6L hD ?_,z6L hD ?_]
 · rw[K.mul_div _ hD,K.mul_div _ hD,K.mul_div _ hD];exact zaQ s.a.x s.a.y s.a.z s.b.x s.b.y s.b.z s.c.x s.c.y s.c.z s.d.x s.d.y s.d.z
 · rw[K.mul_div _ hD,K.mul_div _ hD,K.mul_div _ hD];exact zfG s.a.x s.a.y s.a.z s.b.x s.b.y s.b.z s.c.x s.c.y s.c.z s.d.x s.d.y s.d.z
 · rw[K.mul_div _ hD,K.mul_div _ hD,K.mul_div _ hD];exact zgo s.a.x s.a.y s.a.z s.b.x s.b.y s.b.z s.c.x s.c.y s.c.z s.d.x s.d.y s.d.z
theorem z9d{l:List (Int×Int)}(h:K.sgn (z7o (z0g l).a (z0g l).b (z0g l).c)≠0):l.foldl (z9e (z3a l)) ⟨0,0,0⟩=⟨0,0,0⟩:=by
 rw[←z7Q (z3a l),zqa]
 exact(zeE h).trans (z7Q _).symm
end Go.Fw
open Go
namespace Go.Fw
set_option maxRecDepth 100000
theorem zpG(v:V3):(kv v).ok=true:=by
 unfold VN.ok ok3 kv kV
 rw[ziv,ziv,ziv];rfl
theorem zk3{l:List (Int×Int)}(g:z5Y l=true)(m:V3):z44 l (kv m)=(l.map (z6B (kv m)),0):=by
 unfold z44
 rw[g,zpG];rfl
end Go.Fw
open Go
namespace Go.Fw
set_option maxRecDepth 100000
def zpS(v w:V3)(p r:K):V3:=⟨v.x*p+w.x*r,v.y*p+w.y*r,v.z*p+w.z*r⟩
theorem V3.ext{v w:V3}(h1:v.x=w.x)(h2:v.y=w.y)(h3:v.z=w.z):v=w:=by
 cases v;cases w;simp only at h1 h2 h3;subst h1 h2 h3;rfl
end Go.Fw
open Go
namespace Go.Fw
set_option maxRecDepth 100000
theorem zfN(o f1 f2 f3 m1 m2 m3 r1 r2 r3:K):o-(m1*r1+m2*r2+m3*r3)=(o-(f1*r1+f2*r2+f3*r3))+((f1-m1)*r1+(f2-m2)*r2+(f3-m3)*r3):=
 (show ∀ρ:Nat→K,ρ 0-(ρ 4*ρ 7+ρ 5*ρ 8+ρ 6*ρ 9)=(ρ 0-(ρ 1*ρ 7+ρ 2*ρ 8+ρ 3*ρ 9))+((ρ 1-ρ 4)*ρ 7+(ρ 2-ρ 5)*ρ 8+(ρ 3-ρ 6)*ρ 9)from fun ρ=>CR.ring ρ rfl) (CR.vr [o,f1,f2,f3,m1,m2,m3,r1,r2,r3])
theorem ziA(b c n1 n2 n3 r1 r2 r3 e1 e2 e3 r:K):(b+((e1*n1+e2*n2+e3*n3)+(e1*n1+e2*n2+e3*n3))+c)+(r+(e1*r1+e2*r2+e3*r3))*(r+(e1*r1+e2*r2+e3*r3))=(b+r*r)+((e1*(n1+r1*r)+e2*(n2+r2*r)+e3*(n3+r3*r))+(e1*(n1+r1*r)+e2*(n2+r2*r)+e3*(n3+r3*r)))+(c+(e1*r1+e2*r2+e3*r3)*(e1*r1+e2*r2+e3*r3)):=
 (show ∀ρ:Nat→K,(ρ 0+((ρ 8*ρ 2+ρ 9*ρ 3+ρ 10*ρ 4)+(ρ 8*ρ 2+ρ 9*ρ 3+ρ 10*ρ 4))+ρ 1)+(ρ 11+(ρ 8*ρ 5+ρ 9*ρ 6+ρ 10*ρ 7))*(ρ 11+(ρ 8*ρ 5+ρ 9*ρ 6+ρ 10*ρ 7))=(ρ 0+ρ 11*ρ 11)+((ρ 8*(ρ 2+ρ 5*ρ 11)+ρ 9*(ρ 3+ρ 6*ρ 11)+ρ 10*(ρ 4+ρ 7*ρ 11))+(ρ 8*(ρ 2+ρ 5*ρ 11)+ρ 9*(ρ 3+ρ 6*ρ 11)+ρ 10*(ρ 4+ρ 7*ρ 11)))+(ρ 1+(ρ 8*ρ 5+ρ 9*ρ 6+ρ 10*ρ 7)*(ρ 8*ρ 5+ρ 9*ρ 6+ρ 10*ρ 7))from fun ρ=>CR.ring ρ rfl) (CR.vr [b,c,n1,n2,n3,r1,r2,r3,e1,e2,e3,r])
theorem zhh(x c e1 e2 e3:K):x-(x+((e1*0+e2*0+e3*0)+(e1*0+e2*0+e3*0))+c)= -c:=
 (show ∀ρ:Nat→K,ρ 0-(ρ 0+((ρ 2*0+ρ 3*0+ρ 4*0)+(ρ 2*0+ρ 3*0+ρ 4*0))+ρ 1)= -ρ 1 from fun ρ=>CR.ring ρ rfl) (CR.vr [x,c,e1,e2,e3])
noncomputable def msK(m:V3)(s:K)(l:List (Int×Int)):K:=l.foldl (fun s x=>s+zbj m x*zbj m x) s
noncomputable def usq(e:V3)(s:K)(l:List (Int×Int)):K:=l.foldl (fun s x=>s+V3.dot' e (z36 x.1)*V3.dot' e (z36 x.1)) s
def V3.minus(v w:V3):V3:=⟨v.x-w.x,v.y-w.y,v.z-w.z⟩
theorem zj0 (f m : V3) (l : List (Int × Int)) : ∀ (b c : K) (n : V3),
    msK m (b+(V3.dot' (f.minus m) n+V3.dot' (f.minus m) n)+c) l=msK f b l+(V3.dot' (f.minus m) (l.foldl (z9e f) n)+V3.dot' (f.minus m) (l.foldl (z9e f) n))+usq (f.minus m) c l:=by
 induction l with
 |nil=>intro b c n;rfl
 |cons x l ih=>
  intro b c n
  have e:zbj m x=zbj f x+V3.dot' (f.minus m) (z36 x.1):=zfN _ _ _ _ _ _ _ _ _ _
  have st:=ziA b c n.x n.y n.z (z36 x.1).x (z36 x.1).y (z36 x.1).z (f.minus m).x (f.minus m).y (f.minus m).z (zbj f x)
  have h:=ih (b+zbj f x*zbj f x) (c+V3.dot' (f.minus m) (z36 x.1)*V3.dot' (f.minus m) (z36 x.1)) (z9e f n x)
  show msK m ((b+(V3.dot' (f.minus m) n+V3.dot' (f.minus m) n)+c)+zbj m x*zbj m x) l=_
  rw[e]
  refine Eq.trans ?_ h
  exact congrArg (fun z=>msK m z l) st
theorem zh2{x y:K}(hx:0≤K.sgn x)(hy:0≤K.sgn y):0≤K.sgn (x+y):=by
 rcases K.sgn_vals x with h|h|h
 · omega
 · rw[K.sgn_zero.1 h,K.zero_add];exact hy
 · rcases K.sgn_vals y with k|k|k
   · omega
   · rw[K.sgn_zero.1 k,K.add_zero];exact hx
   · rw[K.sgn_add x y h k];decide
theorem zlb(x:K):0≤K.sgn (x*x):=by
 rw[K.sgn_mul]
 rcases K.sgn_vals x with h|h|h<;>rw[h]<;>decide
theorem zpp(m:V3)(l:List (Int×Int)): ∀s:K,0≤K.sgn s→0≤K.sgn (msK m s l):=by
 induction l with
 |nil=>intro s h;exact h
 |cons x l ih=>intro s h;exact ih _ (zh2 h (zlb _))
theorem znH(e:V3)(l:List (Int×Int)): ∀s:K,0≤K.sgn s→0≤K.sgn (usq e s l):=by
 induction l with
 |nil=>intro s h;exact h
 |cons x l ih=>intro s h;exact ih _ (zh2 h (zlb _))
theorem zpA{l:List (Int×Int)}(h:K.sgn (z7o (z0g l).a (z0g l).b (z0g l).c)≠0)(m:V3):K.sgn (msK (z3a l) 0 l-msK m 0 l)≤0:=by
 have e:=zj0 (z3a l) m l 0 0 ⟨0,0,0⟩
 rw[z9d h]at e
 have z:(0:K)+(V3.dot' ((z3a l).minus m) ⟨0,0,0⟩+V3.dot' ((z3a l).minus m) ⟨0,0,0⟩)+0=0:=
  (show ∀ρ:Nat→K,(0:K)+((ρ 0*0+ρ 1*0+ρ 2*0)+(ρ 0*0+ρ 1*0+ρ 2*0))+0=0 from fun ρ=>CR.ring ρ rfl) (CR.vr [((z3a l).minus m).x,((z3a l).minus m).y,((z3a l).minus m).z])
 rw[z]at e
 rw[e]
 have s:=zhh (msK (z3a l) 0 l) (usq ((z3a l).minus m) 0 l) ((z3a l).minus m).x ((z3a l).minus m).y ((z3a l).minus m).z
 have s':msK (z3a l) 0 l-(msK (z3a l) 0 l+(V3.dot' ((z3a l).minus m) ⟨0,0,0⟩+V3.dot' ((z3a l).minus m) ⟨0,0,0⟩)+usq ((z3a l).minus m) 0 l)= -usq ((z3a l).minus m) 0 l:=s
 rw[s',K.sgn_neg]
 have:=znH ((z3a l).minus m) l 0 (by rw[K.sgn_zero.2 rfl];decide)
 omega
theorem zfY(m:V3)(l:List (Int×Int)): ∀s:K,z8p (kN s) (l.map (z6B (kv m)))=kN (msK m s l):=by
 induction l with
 |nil=>intro s;rfl
 |cons x l ih=>
  intro s
  show z8p (z2S (kN s) (zb7 (z6B (kv m) x) (z6B (kv m) x))) (l.map (z6B (kv m)))=_
  rw[zod,znM,zot,ih]
  rfl
theorem ze4{l:List (Int×Int)}(g:z5Y l=true)(m:V3):z6C l (kv m)=(kN (msK m 0 l),0):=by
 unfold z6C
 rw[zk3 g,if_pos rfl]
 dsimp only
 rw[zft,show K.ofInt 0=(0:K)from rfl,zfY]
end Go.Fw
open Go IntKind
namespace Go.Fw
set_option maxRecDepth 100000
theorem zkU(b:Bool)(s:ByteArray)(z:Int)(g:J2 b s=false):PCall P 213 [.agg [.lit (.bool b),X3 s],J6 z] (.lit (.int .i64 0)):=
 j5 (.r 4 ((J4 (b) (s)).eqB g) .nil) (by kernel_rfl)
theorem zmA(b:Bool)(s:ByteArray)(h1:(J2 b s)=true):PCall P 186 [.agg [.lit (.bool b),X3 s]] (.agg [.lit (.bool false),.lit (.string s)]):=
 j5 (.r 3 ((J4 (b) (s)).eqB h1) (.c (lq 2 2) .nil)) (by kernel_rfl)
theorem zm1(b:Bool)(s:ByteArray)(h1:(J2 b s)=false):PCall P 186 [.agg [.lit (.bool b),X3 s]] (.agg [.lit (.bool false),.lit (.string {data:= #[]})]):=
 j5 (.r 3 ((J4 (b) (s)).eqB h1) (.c (lq 2 2) .nil)) (by kernel_rfl)
end Go.Fw
open Go
namespace Go.Fw
set_option maxRecDepth 100000
def z1Y(b:Bool)(s:ByteArray):Int:=if J2 b s then(if zOf b s<400 then-1 else if zOf b s=400 then 0 else 1)else 0
def z0i(b:Bool)(s:ByteArray):ByteArray:=if J2 b s then s else⟨#[]⟩
theorem z00(b:Bool)(s:ByteArray)(hs:s.size≤2000000):PCall P 213 [.agg [.lit (.bool b),X3 s],J6 400] (j6 (z1Y b s)):=by
 unfold z1Y
 cases g:J2 b s
 · exact zkU b s 400 g
 · rw[z2x g,if_pos rfl]
   exact z8z _ _ (by rw[(X5 g).2.2];exact Sml.ofStr (by decide) hs) (Sml.of_lt (k:=2) (by decide) (by decide))
theorem z0C(b:Bool)(s:ByteArray):PCall P 186 [.agg [.lit (.bool b),X3 s]] (.agg [.lit (.bool false),X3 (z0i b s)]):=by
 unfold z0i
 cases g:J2 b s
 · exact zm1 b s g
 · exact zmA b s g
theorem z3T{b:Bool}{s:ByteArray}{n:Nat}(h:s.size≤n):(z0i b s).size≤n:=by
 unfold z0i
 split
 · exact h
 · exact Nat.zero_le _
theorem zgU(x:RN)(hs:x.raw 2000000=true):PCall P 124 [x.c] (.lit (.bool x.ok)):=zar x (by decide) hs
end Go.Fw
open Go IntKind
namespace Go.Fw
set_option maxRecDepth 100000
theorem zoC(x:RN)(h1:decide (z1Y x.b4 x.s4>0)=true)(s2_0:(-9223372036854775808:Int)≤400∧(400:Int)≤9223372036854775807)(s8_0:x.s4.size≤2000000):PCall P 150 [x.c] (.lit (.bool false)):=
 j5 (.r 2 (Y1 ((400:Int)) s2_0) (.c (lq 2 2) (.r 8 (z00 (x.b4) (x.s4) s8_0) (.b 10 h1 .nil)))) (by kernel_rfl)
theorem zmX(x:RN)(h1:decide (z1Y x.b4 x.s4>0)=false)(h2:decide (z1Y false (z0i x.b0 x.s0)>0)=true)(s2_0:(-9223372036854775808:Int)≤400∧(400:Int)≤9223372036854775807)(s8_0:x.s4.size≤2000000)(s22_0:(z0i x.b0 x.s0).size≤2000000):PCall P 150 [x.c] (.lit (.bool false)):=
 j5 (.r 2 (Y1 ((400:Int)) s2_0) (.c (lq 2 2) (.r 8 (z00 (x.b4) (x.s4) s8_0) (.b 10 h1 (.c (bq 0 4) (.r 20 (z0C (x.b0) (x.s0)) (.r 22 (z00 (false) (z0i x.b0 x.s0) s22_0) (.b 24 h2 .nil)))))))) (by kernel_rfl)
theorem zok(x:RN)(h1:decide (z1Y x.b4 x.s4>0)=false)(h2:decide (z1Y false (z0i x.b0 x.s0)>0)=false)(h3:decide (z1Y false (z0i x.b1 x.s1)>0)=true)(s2_0:(-9223372036854775808:Int)≤400∧(400:Int)≤9223372036854775807)(s8_0:x.s4.size≤2000000)(s22_0:(z0i x.b0 x.s0).size≤2000000)(s38_0:(z0i x.b1 x.s1).size≤2000000):PCall P 150 [x.c] (.lit (.bool false)):=
 j5 (.r 2 (Y1 ((400:Int)) s2_0) (.c (lq 2 2) (.r 8 (z00 (x.b4) (x.s4) s8_0) (.b 10 h1 (.c (bq 0 4) (.r 20 (z0C (x.b0) (x.s0)) (.r 22 (z00 (false) (z0i x.b0 x.s0) s22_0) (.b 24 h2 (.c (bq 1 4) (.r 36 (z0C (x.b1) (x.s1)) (.r 38 (z00 (false) (z0i x.b1 x.s1) s38_0) (.b 40 h3 .nil)))))))))))) (by kernel_rfl)
theorem zlL(x:RN)(h1:decide (z1Y x.b4 x.s4>0)=false)(h2:decide (z1Y false (z0i x.b0 x.s0)>0)=false)(h3:decide (z1Y false (z0i x.b1 x.s1)>0)=false)(h4:decide (z1Y false (z0i x.b2 x.s2)>0)=true)(s2_0:(-9223372036854775808:Int)≤400∧(400:Int)≤9223372036854775807)(s8_0:x.s4.size≤2000000)(s22_0:(z0i x.b0 x.s0).size≤2000000)(s38_0:(z0i x.b1 x.s1).size≤2000000)(s54_0:(z0i x.b2 x.s2).size≤2000000):PCall P 150 [x.c] (.lit (.bool false)):=
 j5 (.r 2 (Y1 ((400:Int)) s2_0) (.c (lq 2 2) (.r 8 (z00 (x.b4) (x.s4) s8_0) (.b 10 h1 (.c (bq 0 4) (.r 20 (z0C (x.b0) (x.s0)) (.r 22 (z00 (false) (z0i x.b0 x.s0) s22_0) (.b 24 h2 (.c (bq 1 4) (.r 36 (z0C (x.b1) (x.s1)) (.r 38 (z00 (false) (z0i x.b1 x.s1) s38_0) (.b 40 h3 (.c (bq 2 4) (.r 52 (z0C (x.b2) (x.s2)) (.r 54 (z00 (false) (z0i x.b2 x.s2) s54_0) (.b 56 h4 .nil)))))))))))))))) (by kernel_rfl)
theorem zmJ(x:RN)(h1:decide (z1Y x.b4 x.s4>0)=false)(h2:decide (z1Y false (z0i x.b0 x.s0)>0)=false)(h3:decide (z1Y false (z0i x.b1 x.s1)>0)=false)(h4:decide (z1Y false (z0i x.b2 x.s2)>0)=false)(h5:decide (z1Y false (z0i x.b3 x.s3)>0)=true)(s2_0:(-9223372036854775808:Int)≤400∧(400:Int)≤9223372036854775807)(s8_0:x.s4.size≤2000000)(s22_0:(z0i x.b0 x.s0).size≤2000000)(s38_0:(z0i x.b1 x.s1).size≤2000000)(s54_0:(z0i x.b2 x.s2).size≤2000000)(s70_0:(z0i x.b3 x.s3).size≤2000000):PCall P 150 [x.c] (.lit (.bool false)):=
 j5 (.r 2 (Y1 ((400:Int)) s2_0) (.c (lq 2 2) (.r 8 (z00 (x.b4) (x.s4) s8_0) (.b 10 h1 (.c (bq 0 4) (.r 20 (z0C (x.b0) (x.s0)) (.r 22 (z00 (false) (z0i x.b0 x.s0) s22_0) (.b 24 h2 (.c (bq 1 4) (.r 36 (z0C (x.b1) (x.s1)) (.r 38 (z00 (false) (z0i x.b1 x.s1) s38_0) (.b 40 h3 (.c (bq 2 4) (.r 52 (z0C (x.b2) (x.s2)) (.r 54 (z00 (false) (z0i x.b2 x.s2) s54_0) (.b 56 h4 (.c (bq 3 4) (.r 68 (z0C (x.b3) (x.s3)) (.r 70 (z00 (false) (z0i x.b3 x.s3) s70_0) (.b 72 h5 .nil)))))))))))))))))))) (by kernel_rfl)
theorem zmW(x:RN)(h1:decide (z1Y x.b4 x.s4>0)=false)(h2:decide (z1Y false (z0i x.b0 x.s0)>0)=false)(h3:decide (z1Y false (z0i x.b1 x.s1)>0)=false)(h4:decide (z1Y false (z0i x.b2 x.s2)>0)=false)(h5:decide (z1Y false (z0i x.b3 x.s3)>0)=false)(h6:(x.ok)=true)(s2_0:(-9223372036854775808:Int)≤400∧(400:Int)≤9223372036854775807)(s8_0:x.s4.size≤2000000)(s22_0:(z0i x.b0 x.s0).size≤2000000)(s38_0:(z0i x.b1 x.s1).size≤2000000)(s54_0:(z0i x.b2 x.s2).size≤2000000)(s70_0:(z0i x.b3 x.s3).size≤2000000)(s81_0:RN.raw 2000000 x=true):PCall P 150 [x.c] (.lit (.bool true)):=
 j5 (.r 2 (Y1 ((400:Int)) s2_0) (.c (lq 2 2) (.r 8 (z00 (x.b4) (x.s4) s8_0) (.b 10 h1 (.c (bq 0 4) (.r 20 (z0C (x.b0) (x.s0)) (.r 22 (z00 (false) (z0i x.b0 x.s0) s22_0) (.b 24 h2 (.c (bq 1 4) (.r 36 (z0C (x.b1) (x.s1)) (.r 38 (z00 (false) (z0i x.b1 x.s1) s38_0) (.b 40 h3 (.c (bq 2 4) (.r 52 (z0C (x.b2) (x.s2)) (.r 54 (z00 (false) (z0i x.b2 x.s2) s54_0) (.b 56 h4 (.c (bq 3 4) (.r 68 (z0C (x.b3) (x.s3)) (.r 70 (z00 (false) (z0i x.b3 x.s3) s70_0) (.b 72 h5 (.r 81 ((zgU (x) s81_0).eqB h6) .nil))))))))))))))))))))) (by kernel_rfl)
theorem zls(x:RN)(h1:decide (z1Y x.b4 x.s4>0)=false)(h2:decide (z1Y false (z0i x.b0 x.s0)>0)=false)(h3:decide (z1Y false (z0i x.b1 x.s1)>0)=false)(h4:decide (z1Y false (z0i x.b2 x.s2)>0)=false)(h5:decide (z1Y false (z0i x.b3 x.s3)>0)=false)(h6:(x.ok)=false)(s2_0:(-9223372036854775808:Int)≤400∧(400:Int)≤9223372036854775807)(s8_0:x.s4.size≤2000000)(s22_0:(z0i x.b0 x.s0).size≤2000000)(s38_0:(z0i x.b1 x.s1).size≤2000000)(s54_0:(z0i x.b2 x.s2).size≤2000000)(s70_0:(z0i x.b3 x.s3).size≤2000000)(s81_0:RN.raw 2000000 x=true):PCall P 150 [x.c] (.lit (.bool false)):=
 j5 (.r 2 (Y1 ((400:Int)) s2_0) (.c (lq 2 2) (.r 8 (z00 (x.b4) (x.s4) s8_0) (.b 10 h1 (.c (bq 0 4) (.r 20 (z0C (x.b0) (x.s0)) (.r 22 (z00 (false) (z0i x.b0 x.s0) s22_0) (.b 24 h2 (.c (bq 1 4) (.r 36 (z0C (x.b1) (x.s1)) (.r 38 (z00 (false) (z0i x.b1 x.s1) s38_0) (.b 40 h3 (.c (bq 2 4) (.r 52 (z0C (x.b2) (x.s2)) (.r 54 (z00 (false) (z0i x.b2 x.s2) s54_0) (.b 56 h4 (.c (bq 3 4) (.r 68 (z0C (x.b3) (x.s3)) (.r 70 (z00 (false) (z0i x.b3 x.s3) s70_0) (.b 72 h5 (.r 81 ((zgU (x) s81_0).eqB h6) .nil))))))))))))))))))))) (by kernel_rfl)
end Go.Fw
open Go
namespace Go.Fw
set_option maxRecDepth 100000
def z6b(x:RN):Bool:=decide (z1Y x.b4 x.s4≤0)&&(decide (z1Y false (z0i x.b0 x.s0)≤0)&&(decide (z1Y false (z0i x.b1 x.s1)≤0)&&(decide (z1Y false (z0i x.b2 x.s2)≤0)&&(decide (z1Y false (z0i x.b3 x.s3)≤0)&&x.ok))))
theorem zcc{x:RN}{n:Nat}(h:x.raw n=true):x.s0.size≤n∧x.s1.size≤n∧x.s2.size≤n∧x.s3.size≤n∧x.s4.size≤n:=by
 obtain⟨b0,s0,b1,s1,b2,s2,b3,s3,b4,s4⟩:=x
 simp only[RN.raw,Bool.and_eq_true,decide_eq_true_eq]at h
 obtain⟨⟨⟨⟨z0,z1⟩,z2⟩,z3⟩,z4⟩:=h
 exact⟨z0,z1,z2,z3,z4⟩
theorem zhI{x:RN}{n:Nat}(h:x.s0.size≤n∧x.s1.size≤n∧x.s2.size≤n∧x.s3.size≤n∧x.s4.size≤n):x.raw n=true:=by
 obtain⟨b0,s0,b1,s1,b2,s2,b3,s3,b4,s4⟩:=x
 simp only[RN.raw,Bool.and_eq_true,decide_eq_true_eq]
 obtain⟨z0,z1,z2,z3,z4⟩:=h
 exact⟨⟨⟨⟨z0,z1⟩,z2⟩,z3⟩,z4⟩
theorem zl6{a:Int}:decide (a>0)=!decide (a≤0):=by
 by_cases h:a≤0
 · rw[decide_eq_true h,decide_eq_false (by omega)];rfl
 · rw[decide_eq_false h,decide_eq_true (by omega)];rfl
theorem z6X(x:RN)(hs:x.raw 2000000=true):PCall P 150 [x.c] (.lit (.bool (z6b x))):=by
 obtain⟨z0,z1,z2,z3,z4⟩:=zcc hs
 unfold z6b
 have f: ∀{a:Int},decide (a≤0)=false→decide (a>0)=true:=fun h=>by rw[zl6,h];rfl
 have t: ∀{a:Int},decide (a≤0)=true→decide (a>0)=false:=fun h=>by rw[zl6,h];rfl
 have a0:=z3T (b:=x.b0) z0
 have a1:=z3T (b:=x.b1) z1
 have a2:=z3T (b:=x.b2) z2
 have a3:=z3T (b:=x.b3) z3
 cases h1:decide (z1Y x.b4 x.s4≤0)
 · exact zoC x (f h1) (by decide) z4
 cases h2:decide (z1Y false (z0i x.b0 x.s0)≤0)
 · exact zmX x (t h1) (f h2) (by decide) z4 a0
 cases h3:decide (z1Y false (z0i x.b1 x.s1)≤0)
 · exact zok x (t h1) (t h2) (f h3) (by decide) z4 a0 a1
 cases h4:decide (z1Y false (z0i x.b2 x.s2)≤0)
 · exact zlL x (t h1) (t h2) (t h3) (f h4) (by decide) z4 a0 a1 a2
 cases h5:decide (z1Y false (z0i x.b3 x.s3)≤0)
 · exact zmJ x (t h1) (t h2) (t h3) (t h4) (f h5) (by decide) z4 a0 a1 a2 a3
 cases h6:x.ok
 · exact zls x (t h1) (t h2) (t h3) (t h4) (t h5) h6 (by decide) z4 a0 a1 a2 a3 hs
 · exact zmW x (t h1) (t h2) (t h3) (t h4) (t h5) h6 (by decide) z4 a0 a1 a2 a3 hs
theorem z9R{x:RN}(h:z6b x=true):x.ok=true:=by
 unfold z6b at h
 simp only[Bool.and_eq_true]at h
 exact h.2.2.2.2.2
theorem zab{b:Bool}{s:ByteArray}(hv:J2 b s=true)(h:z1Y b s≤0):zOf b s≤400:=by
 unfold z1Y at h
 rw[if_pos hv]at h
 by_cases h1:zOf b s<400
 · omega
 · rw[if_neg h1]at h
   by_cases h2:zOf b s=400
   · omega
   · rw[if_neg h2]at h;omega
theorem z9M{b:Bool}{s:ByteArray}(hv:J2 b s=true)(h:(zOf b s).natAbs≤400):s.size≤2:=by
 have h2:=(X5 hv).2.2
 have h3:(bytesOf (J7 s)).size≤2:=X7.2 (by omega)
 rwa[←(X5 hv).1]at h3
theorem zce{b:Bool}{s:ByteArray}(hv:J2 b s=true):J2 false s=true:=by
 unfold J2 at hv ⊢
 split
 · rfl
 · rename_i h
   rw[if_neg h]at hv
   exact hv
theorem z4S{b:Bool}{s:ByteArray}(hv:J2 b s=true)(h:z1Y false (z0i b s)≤0):s.size≤2:=by
 rw[show z0i b s=s from if_pos hv]at h
 have hp:=zce hv
 refine z9M hp ?_
 have:=zab hp h
 have e:zOf false s=(J7 s:Int):=rfl
 omega
theorem z9m{x:RN}(h:z6b x=true):x.raw 2=true:=by
 have hok:=z9R h
 obtain⟨b0,s0,b1,s1,b2,s2,b3,s3,b4,s4⟩:=x
 unfold z6b at h
 simp only[Bool.and_eq_true,decide_eq_true_eq]at h
 obtain⟨h4,h0,h1,h2,h3,_⟩:=h
 simp only[RN.ok,Bool.and_eq_true,decide_eq_true_eq]at hok
 obtain⟨⟨⟨⟨⟨⟨v0,v1⟩,v2⟩,v3⟩,v4⟩,hp⟩,_⟩:=hok
 refine zhI ⟨z4S v0 h0,z4S v1 h1,z4S v2 h2,z4S v3 h3,z9M v4 ?_⟩
 have:=zab v4 h4
 show(zOf b4 s4).natAbs≤400
 omega
end Go.Fw
open Go IntKind
namespace Go.Fw
set_option maxRecDepth 100000
theorem znc(v:VN)(h1:(z6b v.x)=true)(h2:(z6b v.y)=true)(h3:(z6b v.z)=true)(s4_0:RN.raw 2000000 v.x=true)(s8_0:RN.raw 2000000 v.y=true)(s13_0:RN.raw 2000000 v.z=true):PCall P 68 [v.c] (.lit (.bool true)):=
 j5 (.r 4 ((z6X (v.x) s4_0).eqB h1) (.r 8 ((z6X (v.y) s8_0).eqB h2) (.r 13 ((z6X (v.z) s13_0).eqB h3) .nil))) (by kernel_rfl)
theorem zoF(v:VN)(h1:(z6b v.x)=true)(h2:(z6b v.y)=true)(h3:(z6b v.z)=false)(s4_0:RN.raw 2000000 v.x=true)(s8_0:RN.raw 2000000 v.y=true)(s13_0:RN.raw 2000000 v.z=true):PCall P 68 [v.c] (.lit (.bool false)):=
 j5 (.r 4 ((z6X (v.x) s4_0).eqB h1) (.r 8 ((z6X (v.y) s8_0).eqB h2) (.r 13 ((z6X (v.z) s13_0).eqB h3) .nil))) (by kernel_rfl)
theorem znw(v:VN)(h1:(z6b v.x)=true)(h2:(z6b v.y)=false)(s4_0:RN.raw 2000000 v.x=true)(s8_0:RN.raw 2000000 v.y=true):PCall P 68 [v.c] (.lit (.bool false)):=
 j5 (.r 4 ((z6X (v.x) s4_0).eqB h1) (.r 8 ((z6X (v.y) s8_0).eqB h2) .nil)) (by kernel_rfl)
theorem znj(v:VN)(h1:(z6b v.x)=false)(s4_0:RN.raw 2000000 v.x=true):PCall P 68 [v.c] (.lit (.bool false)):=
 j5 (.r 4 ((z6X (v.x) s4_0).eqB h1) .nil) (by kernel_rfl)
end Go.Fw
open Go
namespace Go.Fw
set_option maxRecDepth 100000
def zf6(v:VN):Bool:=z6b v.x&&(z6b v.y&&z6b v.z)
theorem zaf(v:VN)(hv:v.raw 2000000=true):PCall P 68 [v.c] (.lit (.bool (zf6 v))):=by
 obtain⟨hx,hy,hz⟩:=z07.1 hv
 unfold zf6
 cases h1:z6b v.x
 · exact znj v h1 hx
 cases h2:z6b v.y
 · exact znw v h1 h2 hx hy
 cases h3:z6b v.z
 · exact zoF v h1 h2 h3 hx hy hz
 · exact znc v h1 h2 h3 hx hy hz
theorem zkw{v:VN}(h:zf6 v=true):v.raw 2=true∧ ∃m:V3,v=kv m:=by
 unfold zf6 at h
 simp only[Bool.and_eq_true]at h
 obtain⟨h1,h2,h3⟩:=h
 refine⟨z07.2 ⟨z9m h1,z9m h2,z9m h3⟩,?_⟩
 have ok:v.ok=true:=by
  show ok3 v.x v.y v.z=true
  unfold ok3
  rw[z9R h1,z9R h2,z9R h3];rfl
 obtain⟨a,b,c,e⟩:=zpf ok
 exact⟨⟨a,b,c⟩,e⟩
theorem zi2(x y:RN)(hx:x.raw 1000000=true)(hy:y.raw 1000000=true)(hs:(z4U x y).raw 1000000=true):PCall P 70 [x.c,y.c] (j6 (zoq x y)):=by
 unfold zoq
 cases e1:x.ok
 · rw[z9J (.inl e1),z7B]
   exact zl0 x y e1 hx
 · cases e2:y.ok
   · rw[z9J (.inr e2),z7B]
     exact zlc x y e1 e2 hx hy
   · exact zkY x y e1 e2 hx hy hx hy hs
theorem z8v{n:Nat}: ∀(l:List RN) (s:RN) (k:Nat),(∀x∈l,x.raw n=true)→s.raw k=true→(z8p s l).raw (k+l.length*(2*n+2))=true
 | [],s,k,_,hs=>by simpa[z8p]using hs
 |x::l,s,k,hx,hs=>by
  have q:=zan (hx x (by simp)) (hx x (by simp))
  have h:=z8v l (z2S s (zb7 x x)) (k+(n+n+1)+1) (fun y hy=>hx y (by simp[hy])) (z9T hs q)
  unfold z8p
  refine RN.raw_mono h ?_
  rw[List.length_cons,Nat.add_mul];omega
theorem zcD{l:List (Int×Int)}{m:VN}{n:Nat}(hm:m.raw n=true)(hl:l.length≤12):(z6C l m).1.raw (1+12*(2*(3*n+11)+2))=true:=by
 unfold z6C
 split
 · have h := z8v (z44 l m).1 (oN 0) 1 (fun x hx => by
     obtain⟨k,hk,rfl⟩:=List.getElem_of_mem hx
     exact z9F hm k hk) (z6r (by decide+kernel))
   refine RN.raw_mono h ?_
   have:=Nat.mul_le_mul_right (2*(3*n+11)+2) (Nat.le_trans (zae l m) hl)
   omega
 · exact z0U (o:=none) (Nat.zero_le _)
theorem zjh{l:List (Int×Int)}(h:z5Y l=true)(hl:l.length≤12):sz3 (z3a l) 7439:=by
 obtain⟨⟨h1,h2,h3⟩,h4⟩:=za4 h hl
 have d:=z7L h1 h2 h3
 have e: ∀{x:K},x.sz≤15*61+14→(K.div x (z7o (z0g l).a (z0g l).b (z0g l).c)).sz≤7439:=fun {x} hx=>Nat.le_trans (K.sz_div _ _) (by omega)
 exact⟨e (z7L h4 h2 h3),e (z7L h1 h4 h3),e (z7L h1 h2 h4)⟩
end Go.Fw
