/- A part of the proof that the law returns true for every input: an executor for the model's code, and what functions of the program compute. -/
import Derived.Test.YtcafjpldfnegiaaGreatDoorB11
import Derived.Test.YtcafjpldfnegiaaGreatDoorB15
import Derived.Test.YtcafjpldfnegiaaGreatDoorB39
import Derived.Test.YtcafjpldfnegiaaGreatDoorB42
import Derived.Test.YtcafjpldfnegiaaGreatDoorB45
import Derived.Test.YtcafjpldfnegiaaGreatDoorB46
import Derived.KernelRfl
open Go
namespace Go.Fw
set_option maxRecDepth 100000
theorem sgn_pos_mul{x k:K}(hk:K.sgn k=1):K.sgn (x*k)=K.sgn x:=by rw[K.sgn_mul,hk,Int.mul_one]
theorem mul_ne{x k:K}(h:x≠0)(hk:K.sgn k=1):x*k≠0:=fun e=>h (K.sgn_zero.1 (by rw[←sgn_pos_mul hk,e];exact K.sgn_zero.2 rfl))
end Go.Fw
open Go
namespace Go.Fw
set_option maxRecDepth 100000
theorem wCross_kV(a b c a' b' c':K):wCross (kV a b c) (kV a' b' c')=kV (b*c'-c*b') (c*a'-a*c') (a*b'-b*a'):=by
 unfold wCross kV
 rw[toV_k,toV_k,kN_eq,kN_eq,kN_eq];rfl
theorem wDet3_k(a1 a2 a3 b1 b2 b3 c1 c2 c3:K):wDet3 (kV a1 a2 a3) (kV b1 b2 b3) (kV c1 c2 c3)=kN (a1*(b2*c3-b3*c2)+a2*(b3*c1-b1*c3)+a3*(b1*c2-b2*c1)):=by
 unfold wDet3
 rw[wCross_kV,wDot_kV]
theorem meetN_k(a1 a2 a3 a0 b1 b2 b3 b0 c1 c2 c3 c0:K):meetN (kP a1 a2 a3 a0) (kP b1 b2 b3 b0) (kP c1 c2 c3 c0)=kV ((((b2*c3-b3*c2)*a0)+((c2*a3-c3*a2)*b0))+((a2*b3-a3*b2)*c0)) ((((b3*c1-b1*c3)*a0)+((c3*a1-c1*a3)*b0))+((a3*b1-a1*b3)*c0)) ((((b1*c2-b2*c1)*a0)+((c1*a2-c2*a1)*b0))+((a1*b2-a2*b1)*c0)):=by
 unfold meetN kP
 dsimp only
 rw[wCross_kV,wCross_kV,wCross_kV,wScale_kV,wScale_kV,wScale_kV,wAdd_kV,wAdd_kV]
theorem cram_a(a1 a2 a3 a0 b1 b2 b3 b0 c1 c2 c3 c0:K):(a1*((((b2*c3-b3*c2)*a0)+((c2*a3-c3*a2)*b0))+((a2*b3-a3*b2)*c0))+a2*((((b3*c1-b1*c3)*a0)+((c3*a1-c1*a3)*b0))+((a3*b1-a1*b3)*c0))+a3*((((b1*c2-b2*c1)*a0)+((c1*a2-c2*a1)*b0))+((a1*b2-a2*b1)*c0)))=a0*(a1*(b2*c3-b3*c2)+a2*(b3*c1-b1*c3)+a3*(b1*c2-b2*c1)):=(show ∀ρ:Nat→K,(ρ 0*((((ρ 5*ρ 10-ρ 6*ρ 9)*ρ 3)+((ρ 9*ρ 2-ρ 10*ρ 1)*ρ 7))+((ρ 1*ρ 6-ρ 2*ρ 5)*ρ 11))+ρ 1*((((ρ 6*ρ 8-ρ 4*ρ 10)*ρ 3)+((ρ 10*ρ 0-ρ 8*ρ 2)*ρ 7))+((ρ 2*ρ 4-ρ 0*ρ 6)*ρ 11))+ρ 2*((((ρ 4*ρ 9-ρ 5*ρ 8)*ρ 3)+((ρ 8*ρ 1-ρ 9*ρ 0)*ρ 7))+((ρ 0*ρ 5-ρ 1*ρ 4)*ρ 11)))=ρ 3*(ρ 0*(ρ 5*ρ 10-ρ 6*ρ 9)+ρ 1*(ρ 6*ρ 8-ρ 4*ρ 10)+ρ 2*(ρ 4*ρ 9-ρ 5*ρ 8))from fun ρ=>CR.ring ρ rfl) (CR.vr [a1,a2,a3,a0,b1,b2,b3,b0,c1,c2,c3,c0])
theorem cram_b(a1 a2 a3 a0 b1 b2 b3 b0 c1 c2 c3 c0:K):(b1*((((b2*c3-b3*c2)*a0)+((c2*a3-c3*a2)*b0))+((a2*b3-a3*b2)*c0))+b2*((((b3*c1-b1*c3)*a0)+((c3*a1-c1*a3)*b0))+((a3*b1-a1*b3)*c0))+b3*((((b1*c2-b2*c1)*a0)+((c1*a2-c2*a1)*b0))+((a1*b2-a2*b1)*c0)))=b0*(a1*(b2*c3-b3*c2)+a2*(b3*c1-b1*c3)+a3*(b1*c2-b2*c1)):=(show ∀ρ:Nat→K,(ρ 4*((((ρ 5*ρ 10-ρ 6*ρ 9)*ρ 3)+((ρ 9*ρ 2-ρ 10*ρ 1)*ρ 7))+((ρ 1*ρ 6-ρ 2*ρ 5)*ρ 11))+ρ 5*((((ρ 6*ρ 8-ρ 4*ρ 10)*ρ 3)+((ρ 10*ρ 0-ρ 8*ρ 2)*ρ 7))+((ρ 2*ρ 4-ρ 0*ρ 6)*ρ 11))+ρ 6*((((ρ 4*ρ 9-ρ 5*ρ 8)*ρ 3)+((ρ 8*ρ 1-ρ 9*ρ 0)*ρ 7))+((ρ 0*ρ 5-ρ 1*ρ 4)*ρ 11)))=ρ 7*(ρ 0*(ρ 5*ρ 10-ρ 6*ρ 9)+ρ 1*(ρ 6*ρ 8-ρ 4*ρ 10)+ρ 2*(ρ 4*ρ 9-ρ 5*ρ 8))from fun ρ=>CR.ring ρ rfl) (CR.vr [a1,a2,a3,a0,b1,b2,b3,b0,c1,c2,c3,c0])
theorem cram_c(a1 a2 a3 a0 b1 b2 b3 b0 c1 c2 c3 c0:K):(c1*((((b2*c3-b3*c2)*a0)+((c2*a3-c3*a2)*b0))+((a2*b3-a3*b2)*c0))+c2*((((b3*c1-b1*c3)*a0)+((c3*a1-c1*a3)*b0))+((a3*b1-a1*b3)*c0))+c3*((((b1*c2-b2*c1)*a0)+((c1*a2-c2*a1)*b0))+((a1*b2-a2*b1)*c0)))=c0*(a1*(b2*c3-b3*c2)+a2*(b3*c1-b1*c3)+a3*(b1*c2-b2*c1)):=(show ∀ρ:Nat→K,(ρ 8*((((ρ 5*ρ 10-ρ 6*ρ 9)*ρ 3)+((ρ 9*ρ 2-ρ 10*ρ 1)*ρ 7))+((ρ 1*ρ 6-ρ 2*ρ 5)*ρ 11))+ρ 9*((((ρ 6*ρ 8-ρ 4*ρ 10)*ρ 3)+((ρ 10*ρ 0-ρ 8*ρ 2)*ρ 7))+((ρ 2*ρ 4-ρ 0*ρ 6)*ρ 11))+ρ 10*((((ρ 4*ρ 9-ρ 5*ρ 8)*ρ 3)+((ρ 8*ρ 1-ρ 9*ρ 0)*ρ 7))+((ρ 0*ρ 5-ρ 1*ρ 4)*ρ 11)))=ρ 11*(ρ 0*(ρ 5*ρ 10-ρ 6*ρ 9)+ρ 1*(ρ 6*ρ 8-ρ 4*ρ 10)+ρ 2*(ρ 4*ρ 9-ρ 5*ρ 8))from fun ρ=>CR.ring ρ rfl) (CR.vr [a1,a2,a3,a0,b1,b2,b3,b0,c1,c2,c3,c0])
theorem k_fac(x y z X Y Z i:K):x*(X*i)+y*(Y*i)+z*(Z*i)=(x*X+y*Y+z*Z)*i:=
 (show ∀ρ:Nat→K,ρ 0*(ρ 3*ρ 6)+ρ 1*(ρ 4*ρ 6)+ρ 2*(ρ 5*ρ 6)=(ρ 0*ρ 3+ρ 1*ρ 4+ρ 2*ρ 5)*ρ 6 from fun ρ=>CR.ring ρ rfl) (CR.vr [x,y,z,X,Y,Z,i])
theorem k_self(x:K):x-x=0:=(show ∀ρ:Nat→K,ρ 0-ρ 0=0 from fun ρ=>CR.ring ρ rfl) (CR.vr [x])
theorem on_bound{x y z d X Y Z D i:K}(h: ¬(x=0∧y=0∧z=0))(hD:D*i=1)(hm:x*X+y*Y+z*Z=d*D):sideV (kP x y z d) (kV (X*i) (Y*i) (Z*i))=0:=by
 rw[sideV_k h,k_fac,hm,K.mul_assoc,hD,K.mul_one,k_self]
 exact K.sgn_zero.2 rfl
theorem meet_k{a1 a2 a3 a0 b1 b2 b3 b0 c1 c2 c3 c0:K}(h:K.sgn (a1*(b2*c3-b3*c2)+a2*(b3*c1-b1*c3)+a3*(b1*c2-b2*c1))≠0):meetV (kP a1 a2 a3 a0) (kP b1 b2 b3 b0) (kP c1 c2 c3 c0)=(kV (((((b2*c3-b3*c2)*a0)+((c2*a3-c3*a2)*b0))+((a2*b3-a3*b2)*c0))*K.div (K.ofInt 1) (a1*(b2*c3-b3*c2)+a2*(b3*c1-b1*c3)+a3*(b1*c2-b2*c1))) (((((b3*c1-b1*c3)*a0)+((c3*a1-c1*a3)*b0))+((a3*b1-a1*b3)*c0))*K.div (K.ofInt 1) (a1*(b2*c3-b3*c2)+a2*(b3*c1-b1*c3)+a3*(b1*c2-b2*c1))) (((((b1*c2-b2*c1)*a0)+((c1*a2-c2*a1)*b0))+((a1*b2-a2*b1)*c0))*K.div (K.ofInt 1) (a1*(b2*c3-b3*c2)+a2*(b3*c1-b1*c3)+a3*(b1*c2-b2*c1))),0):=by
 have e:wDet3 (kP a1 a2 a3 a0).n (kP b1 b2 b3 b0).n (kP c1 c2 c3 c0).n=kN (a1*(b2*c3-b3*c2)+a2*(b3*c1-b1*c3)+a3*(b1*c2-b2*c1)):=wDet3_k _ _ _ _ _ _ _ _ _
 unfold meetV
 rw[e,nSgn_k,if_neg h,oN_k,nDiv_k _ _ h,meetN_k,wScale_kV]
theorem thr_n(u1 u2 u3 v1 v2 v3 w1 w2 w3:K):wCross (wSub (kV v1 v2 v3) (kV u1 u2 u3)) (wSub (kV w1 w2 w3) (kV u1 u2 u3))=kV ((v2-u2)*(w3-u3)-(v3-u3)*(w2-u2)) ((v3-u3)*(w1-u1)-(v1-u1)*(w3-u3)) ((v1-u1)*(w2-u2)-(v2-u2)*(w1-u1)):=by
 rw[wSub_kV,wSub_kV,wCross_kV]
theorem thr_v(u1 u2 u3 v1 v2 v3 w1 w2 w3:K):(((v2-u2)*(w3-u3)-(v3-u3)*(w2-u2))*v1+((v3-u3)*(w1-u1)-(v1-u1)*(w3-u3))*v2+((v1-u1)*(w2-u2)-(v2-u2)*(w1-u1))*v3)-(((v2-u2)*(w3-u3)-(v3-u3)*(w2-u2))*u1+((v3-u3)*(w1-u1)-(v1-u1)*(w3-u3))*u2+((v1-u1)*(w2-u2)-(v2-u2)*(w1-u1))*u3)=0:=(show ∀ρ:Nat→K,(((ρ 4-ρ 1)*(ρ 8-ρ 2)-(ρ 5-ρ 2)*(ρ 7-ρ 1))*ρ 3+((ρ 5-ρ 2)*(ρ 6-ρ 0)-(ρ 3-ρ 0)*(ρ 8-ρ 2))*ρ 4+((ρ 3-ρ 0)*(ρ 7-ρ 1)-(ρ 4-ρ 1)*(ρ 6-ρ 0))*ρ 5)-(((ρ 4-ρ 1)*(ρ 8-ρ 2)-(ρ 5-ρ 2)*(ρ 7-ρ 1))*ρ 0+((ρ 5-ρ 2)*(ρ 6-ρ 0)-(ρ 3-ρ 0)*(ρ 8-ρ 2))*ρ 1+((ρ 3-ρ 0)*(ρ 7-ρ 1)-(ρ 4-ρ 1)*(ρ 6-ρ 0))*ρ 2)=0 from fun ρ=>CR.ring ρ rfl) (CR.vr [u1,u2,u3,v1,v2,v3,w1,w2,w3])
theorem thr_w(u1 u2 u3 v1 v2 v3 w1 w2 w3:K):(((v2-u2)*(w3-u3)-(v3-u3)*(w2-u2))*w1+((v3-u3)*(w1-u1)-(v1-u1)*(w3-u3))*w2+((v1-u1)*(w2-u2)-(v2-u2)*(w1-u1))*w3)-(((v2-u2)*(w3-u3)-(v3-u3)*(w2-u2))*u1+((v3-u3)*(w1-u1)-(v1-u1)*(w3-u3))*u2+((v1-u1)*(w2-u2)-(v2-u2)*(w1-u1))*u3)=0:=(show ∀ρ:Nat→K,(((ρ 4-ρ 1)*(ρ 8-ρ 2)-(ρ 5-ρ 2)*(ρ 7-ρ 1))*ρ 6+((ρ 5-ρ 2)*(ρ 6-ρ 0)-(ρ 3-ρ 0)*(ρ 8-ρ 2))*ρ 7+((ρ 3-ρ 0)*(ρ 7-ρ 1)-(ρ 4-ρ 1)*(ρ 6-ρ 0))*ρ 8)-(((ρ 4-ρ 1)*(ρ 8-ρ 2)-(ρ 5-ρ 2)*(ρ 7-ρ 1))*ρ 0+((ρ 5-ρ 2)*(ρ 6-ρ 0)-(ρ 3-ρ 0)*(ρ 8-ρ 2))*ρ 1+((ρ 3-ρ 0)*(ρ 7-ρ 1)-(ρ 4-ρ 1)*(ρ 6-ρ 0))*ρ 2)=0 from fun ρ=>CR.ring ρ rfl) (CR.vr [u1,u2,u3,v1,v2,v3,w1,w2,w3])
theorem thr_r(u1 u2 u3 v1 v2 v3 w1 w2 w3 r1 r2 r3:K):(((v2-u2)*(w3-u3)-(v3-u3)*(w2-u2))*r1+((v3-u3)*(w1-u1)-(v1-u1)*(w3-u3))*r2+((v1-u1)*(w2-u2)-(v2-u2)*(w1-u1))*r3)-(((v2-u2)*(w3-u3)-(v3-u3)*(w2-u2))*u1+((v3-u3)*(w1-u1)-(v1-u1)*(w3-u3))*u2+((v1-u1)*(w2-u2)-(v2-u2)*(w1-u1))*u3)=((v1-u1)*((w2-u2)*(r3-u3)-(w3-u3)*(r2-u2))+(v2-u2)*((w3-u3)*(r1-u1)-(w1-u1)*(r3-u3))+(v3-u3)*((w1-u1)*(r2-u2)-(w2-u2)*(r1-u1))):=(show ∀ρ:Nat→K,(((ρ 4-ρ 1)*(ρ 8-ρ 2)-(ρ 5-ρ 2)*(ρ 7-ρ 1))*ρ 9+((ρ 5-ρ 2)*(ρ 6-ρ 0)-(ρ 3-ρ 0)*(ρ 8-ρ 2))*ρ 10+((ρ 3-ρ 0)*(ρ 7-ρ 1)-(ρ 4-ρ 1)*(ρ 6-ρ 0))*ρ 11)-(((ρ 4-ρ 1)*(ρ 8-ρ 2)-(ρ 5-ρ 2)*(ρ 7-ρ 1))*ρ 0+((ρ 5-ρ 2)*(ρ 6-ρ 0)-(ρ 3-ρ 0)*(ρ 8-ρ 2))*ρ 1+((ρ 3-ρ 0)*(ρ 7-ρ 1)-(ρ 4-ρ 1)*(ρ 6-ρ 0))*ρ 2)=((ρ 3-ρ 0)*((ρ 7-ρ 1)*(ρ 11-ρ 2)-(ρ 8-ρ 2)*(ρ 10-ρ 1))+(ρ 4-ρ 1)*((ρ 8-ρ 2)*(ρ 9-ρ 0)-(ρ 6-ρ 0)*(ρ 11-ρ 2))+(ρ 5-ρ 2)*((ρ 6-ρ 0)*(ρ 10-ρ 1)-(ρ 7-ρ 1)*(ρ 9-ρ 0)))from fun ρ=>CR.ring ρ rfl) (CR.vr [u1,u2,u3,v1,v2,v3,w1,w2,w3,r1,r2,r3])
theorem thr_det(u1 u2 u3 v1 v2 v3 w1 w2 w3 r1 r2 r3:K):wDet3 (wSub (kV v1 v2 v3) (kV u1 u2 u3)) (wSub (kV w1 w2 w3) (kV u1 u2 u3)) (wSub (kV r1 r2 r3) (kV u1 u2 u3))=kN ((v1-u1)*((w2-u2)*(r3-u3)-(w3-u3)*(r2-u2))+(v2-u2)*((w3-u3)*(r1-u1)-(w1-u1)*(r3-u3))+(v3-u3)*((w1-u1)*(r2-u2)-(w2-u2)*(r1-u1))):=by
 rw[wSub_kV,wSub_kV,wSub_kV,wDet3_k]
theorem thr_k{u v w:VN}(hu:u.ok=true)(hv:v.ok=true)(hw:w.ok=true):thr u v w=if zV (wCross (wSub v u) (wSub w u))=true then(.zero,11)else(⟨wCross (wSub v u) (wSub w u),wDot (wCross (wSub v u) (wSub w u)) u⟩,0):=by
 unfold thr
 rw[hu,hv,hw,Bool.true_and,Bool.true_and,if_pos rfl]
theorem thr_side{u1 u2 u3 v1 v2 v3 w1 w2 w3 t1 t2 t3:K}(h:zV (kV ((v2-u2)*(w3-u3)-(v3-u3)*(w2-u2)) ((v3-u3)*(w1-u1)-(v1-u1)*(w3-u3)) ((v1-u1)*(w2-u2)-(v2-u2)*(w1-u1)))=false):sideV ⟨kV ((v2-u2)*(w3-u3)-(v3-u3)*(w2-u2)) ((v3-u3)*(w1-u1)-(v1-u1)*(w3-u3)) ((v1-u1)*(w2-u2)-(v2-u2)*(w1-u1)),wDot (kV ((v2-u2)*(w3-u3)-(v3-u3)*(w2-u2)) ((v3-u3)*(w1-u1)-(v1-u1)*(w3-u3)) ((v1-u1)*(w2-u2)-(v2-u2)*(w1-u1))) (kV u1 u2 u3)⟩ (kV t1 t2 t3)=K.sgn ((((v2-u2)*(w3-u3)-(v3-u3)*(w2-u2))*t1+((v3-u3)*(w1-u1)-(v1-u1)*(w3-u3))*t2+((v1-u1)*(w2-u2)-(v2-u2)*(w1-u1))*t3)-(((v2-u2)*(w3-u3)-(v3-u3)*(w2-u2))*u1+((v3-u3)*(w1-u1)-(v1-u1)*(w3-u3))*u2+((v1-u1)*(w2-u2)-(v2-u2)*(w1-u1))*u3)):=by
 rw[wDot_kV]
 refine sideV_k (fun e=>?_)
 rw[(zV_kV _ _ _).2 e]at h
 cases h
end Go.Fw
open Go
namespace Go.Fw
set_option maxRecDepth 100000
theorem meet_facts (a b c : PN) (g1 : a.ok = true) (g2 : b.ok = true) (g3 : c.ok = true) (h : nSgn (wDet3 a.n b.n c.n) ≠ 0) :
    (meetV a b c).2=0∧(meetV a b c).1.ok=true∧sideV a (meetV a b c).1=0∧sideV b (meetV a b c).1=0∧sideV c (meetV a b c).1=0:=by
 obtain⟨a1,a2,a3,a0,rfl⟩:=ok_kP g1
 obtain⟨b1,b2,b3,b0,rfl⟩:=ok_kP g2
 obtain⟨c1,c2,c3,c0,rfl⟩:=ok_kP g3
 have n1:=kP_ok.1 g1
 have n2:=kP_ok.1 g2
 have n3:=kP_ok.1 g3
 have e:wDet3 (kP a1 a2 a3 a0).n (kP b1 b2 b3 b0).n (kP c1 c2 c3 c0).n=kN (a1*(b2*c3-b3*c2)+a2*(b3*c1-b1*c3)+a3*(b1*c2-b2*c1)):=wDet3_k _ _ _ _ _ _ _ _ _
 rw[e,nSgn_k]at h
 rw[meet_k h]
 have hD:(a1*(b2*c3-b3*c2)+a2*(b3*c1-b1*c3)+a3*(b1*c2-b2*c1))*K.div (K.ofInt 1) (a1*(b2*c3-b3*c2)+a2*(b3*c1-b1*c3)+a3*(b1*c2-b2*c1))=1:=K.mul_div _ (fun z=>h (K.sgn_zero.2 z))
 have i1:=cram_a a1 a2 a3 a0 b1 b2 b3 b0 c1 c2 c3 c0
 have i2:=cram_b a1 a2 a3 a0 b1 b2 b3 b0 c1 c2 c3 c0
 have i3:=cram_c a1 a2 a3 a0 b1 b2 b3 b0 c1 c2 c3 c0
 exact⟨rfl,kV_ok _ _ _,on_bound n1 hD i1,on_bound n2 hD i2,on_bound n3 hD i3⟩
theorem meet_zero(a b c:PN)(h:nSgn (wDet3 a.n b.n c.n)=0):(meetV a b c).2=11:=by
 unfold meetV
 rw[if_pos h]
theorem raw_sc{x:VN}{k:RN}(h:x.raw 400=true)(g:k.raw 4000=true):(wScale x k).raw 10000=true:=by
 have h4:x.raw 4000=true:=VN.raw_mono h (by decide)
 have:=raw_wScale h4 g
 exact VN.raw_mono this (by decide)
theorem raw_q{y:RN}(h:y.raw 400=true):(nDivE (oN 1) y).1.raw 4000=true:=by
 have h1:(oN 1).raw 400=true:=RN.raw_mono raw_one (by decide)
 have:=raw_div h1 h
 exact RN.raw_mono this (by decide)
theorem raw_meet{a b c:PN}(ha:a.raw 10=true)(hb:b.raw 10=true)(hc:c.raw 10=true):(meetV a b c).1.raw 10000=true:=by
 obtain⟨r1,r2⟩:=raw_meetN ha hb hc
 have k:=raw_sc r1 (raw_q r2)
 unfold meetV
 generalize wScale (meetN a b c) (nDivE (oN 1) (wDet3 a.n b.n c.n)).1=x at*
 generalize nSgn (wDet3 a.n b.n c.n)=t at*
 by_cases h:t=0
 · rw[if_pos h];exact ofV_raw (o:=none) (Nat.zero_le _)
 · rw[if_neg h];exact k
theorem zero_of{x:K}(h:x=0):K.sgn x=0:=K.sgn_zero.2 h
theorem thr_facts (u v w r : VN) (g1 : u.ok = true) (g2 : v.ok = true) (g3 : w.ok = true) (g4 : r.ok = true) (h : zV (wCross (wSub v u) (wSub w u)) = false) :
    (thr u v w).2=0∧(thr u v w).1.ok=true∧sideV (thr u v w).1 u=0∧sideV (thr u v w).1 v=0∧sideV (thr u v w).1 w=0∧sideV (thr u v w).1 r=nSgn (wDet3 (wSub v u) (wSub w u) (wSub r u)):=by
 rw[thr_k g1 g2 g3,h,if_neg (by decide)]
 obtain⟨u1,u2,u3,rfl⟩:=ok_kV g1
 obtain⟨v1,v2,v3,rfl⟩:=ok_kV g2
 obtain⟨w1,w2,w3,rfl⟩:=ok_kV g3
 obtain⟨r1,r2,r3,rfl⟩:=ok_kV g4
 rw[thr_det,nSgn_k]
 rw[thr_n]at h ⊢
 refine⟨rfl,?_,?_,?_,?_,?_⟩
 · rw[wDot_kV]
   exact kP_ok.2 (fun e=>by rw[(zV_kV _ _ _).2 e]at h;cases h)
 · exact(thr_side h).trans (zero_of (k_self _))
 · exact(thr_side h).trans (zero_of (thr_v u1 u2 u3 v1 v2 v3 w1 w2 w3))
 · exact(thr_side h).trans (zero_of (thr_w u1 u2 u3 v1 v2 v3 w1 w2 w3))
 · exact(thr_side h).trans (congrArg K.sgn (thr_r u1 u2 u3 v1 v2 v3 w1 w2 w3 r1 r2 r3))
theorem thr_zero(u v w:VN)(g1:u.ok=true)(g2:v.ok=true)(g3:w.ok=true)(h:zV (wCross (wSub v u) (wSub w u))=true):(thr u v w).2=11:=by
 rw[thr_k g1 g2 g3,if_pos h]
theorem raw_thr{u v w:VN}(g1:u.ok=true)(g2:v.ok=true)(g3:w.ok=true)(hu:u.raw 10=true)(hv:v.raw 10=true)(hw:w.raw 10=true):(thr u v w).1.raw 10000=true:=by
 rw[thr_k g1 g2 g3]
 split
 · exact pl_zero_raw _
 · have s1:=raw_wSub hv hu
   have s2:=raw_wSub hw hu
   have s3:=raw_wCross s1 s2
   exact PN.raw_iff.2 ⟨VN.raw_mono s3 (by decide),RN.raw_mono (raw_wDotn s3 (VN.raw_mono hu (by decide))) (by decide)⟩
theorem sub_ok{v w:VN}(hv:v.ok=true)(hw:w.ok=true):(wSub v w).ok=true:=by
 obtain⟨a,b,c,rfl⟩:=ok_kV hv
 obtain⟨a',b',c',rfl⟩:=ok_kV hw
 rw[wSub_kV]
 exact kV_ok _ _ _
end Go.Fw
open Go
namespace Go.Fw
set_option maxRecDepth 100000
theorem points_true(a b c:PN)(u v w r:VN):PCall P 21 [.agg (p3L a b c),.agg (u.x.l++(u.y.l++(u.z.l++(v.x.l++(v.y.l++(v.z.l++(w.x.l++(w.y.l++(w.z.l++(r.x.l++(r.y.l++r.z.l)))))))))))] (.lit (.bool true)):=by
 have p6: ∀{x:PN},x.raw 10=true→x.raw 1000000=true:=fun h=>PN.raw_mono h (by decide)
 have p4: ∀{x:PN},x.raw 10=true→x.raw 10000=true:=fun h=>PN.raw_mono h (by decide)
 have v6: ∀{x:VN},x.raw 10=true→x.raw 1000000=true:=fun h=>VN.raw_mono h (by decide)
 have v4: ∀{x:VN},x.raw 10=true→x.raw 10000=true:=fun h=>VN.raw_mono h (by decide)
 have v20: ∀{x:VN},x.raw 10=true→x.raw 20=true:=fun h=>VN.raw_mono h (by decide)
 cases a1:a.raw 10
 · exact lq0_p1 a b c u v w r a1 rfl
 cases a2:a.ok
 · exact lq1_p1 a b c u v w r a1 a2 (p6 a1) rfl
 cases b1:b.raw 10
 · exact lq2_p1 a b c u v w r a1 a2 b1 (p6 a1) rfl rfl
 cases b2:b.ok
 · exact lq3_p1 a b c u v w r a1 a2 b1 b2 (p6 a1) (p6 b1) rfl rfl
 cases c1:c.raw 10
 · exact lq4_p1 a b c u v w r a1 a2 b1 b2 c1 (p6 a1) (p6 b1) rfl rfl rfl
 cases c2:c.ok
 · exact lq5_p1 a b c u v w r a1 a2 b1 b2 c1 c2 (p6 a1) (p6 b1) (p6 c1) rfl rfl rfl
 cases u1:u.raw 10
 · exact lq6_p1 a b c u v w r a1 a2 b1 b2 c1 c2 u1 (p6 a1) (p6 b1) (p6 c1) rfl rfl rfl
 cases u2:u.ok
 · exact lq7_p1 a b c u v w r a1 a2 b1 b2 c1 c2 u1 u2 (p6 a1) (p6 b1) (p6 c1) (v6 u1) rfl rfl rfl
 cases v1:v.raw 10
 · exact lq8_p1 a b c u v w r a1 a2 b1 b2 c1 c2 u1 u2 v1 (p6 a1) (p6 b1) (p6 c1) (v6 u1) rfl rfl rfl
 cases v2:v.ok
 · exact lq9_p1 a b c u v w r a1 a2 b1 b2 c1 c2 u1 u2 v1 v2 (p6 a1) (p6 b1) (p6 c1) (v6 u1) (v6 v1) rfl rfl rfl
 cases w1:w.raw 10
 · exact lq10_p1 a b c u v w r a1 a2 b1 b2 c1 c2 u1 u2 v1 v2 w1 (p6 a1) (p6 b1) (p6 c1) (v6 u1) (v6 v1) rfl rfl rfl
 cases w2:w.ok
 · exact lq11_p1 a b c u v w r a1 a2 b1 b2 c1 c2 u1 u2 v1 v2 w1 w2 (p6 a1) (p6 b1) (p6 c1) (v6 u1) (v6 v1) (v6 w1) rfl rfl rfl
 cases r1:r.raw 10
 · exact lq12_p1 a b c u v w r a1 a2 b1 b2 c1 c2 u1 u2 v1 v2 w1 w2 r1 (p6 a1) (p6 b1) (p6 c1) (v6 u1) (v6 v1) (v6 w1) rfl rfl rfl
 cases r2:r.ok
 · exact lq13_p1 a b c u v w r a1 a2 b1 b2 c1 c2 u1 u2 v1 v2 w1 w2 r1 r2 (p6 a1) (p6 b1) (p6 c1) (v6 u1) (v6 v1) (v6 w1) (v6 r1) rfl rfl rfl
 have d6:(wDet3 a.n b.n c.n).raw 1000000=true:=RN.raw_mono (raw_meetN a1 b1 c1).2 (by decide)
 have d6s:(wDet3 (wSub v u) (wSub w u) (wSub r u)).raw 1000000=true:=by
  have s1:=raw_wSub v1 u1
  have s2:=raw_wSub w1 u1
  have s3:=raw_wSub r1 u1
  exact RN.raw_mono (raw_wDotn (VN.raw_mono s1 (show 10+10+1≤100 by decide)) (VN.raw_mono (raw_wCross s2 s3) (by decide))) (by decide)
 by_cases hd:nSgn (wDet3 a.n b.n c.n)=0
 · have k1:=meet_zero a b c hd
   have m1:((meetV a b c).2==0)=false:=by rw[k1];rfl
   have m5:(nSgn (wDet3 a.n b.n c.n)==0)=true:=beq_iff_eq.2 hd
   have m6:((meetV a b c).2==11)=true:=by rw[k1];rfl
   cases hz:zV (wCross (wSub v u) (wSub w u))
   · obtain⟨l1,l2,l3,l4,l5,l6⟩:=thr_facts u v w r u2 v2 w2 r2 hz
     have t1:((thr u v w).2 != 0)=false:=by rw[l1];rfl
     exact(lqbp_p2 a b c u v w r a1 a2 b1 b2 c1 c2 u1 u2 v1 v2 w1 w2 r1 r2 m1 m5 m6 t1 (beq_iff_eq.2 l3) (beq_iff_eq.2 l4) (beq_iff_eq.2 l5) (by rw[m5,m6];rfl) (p6 a1) (p6 b1) (p6 c1) (v6 u1) (v6 v1) (v6 w1) (v6 r1) (ok_parts a2).1 (ok_parts b2).1 (ok_parts c2).1 (VN.raw_mono (PN.raw_iff.1 a1).1 (by decide)) (VN.raw_mono (PN.raw_iff.1 b1).1 (by decide)) (VN.raw_mono (PN.raw_iff.1 c1).1 (by decide)) d6 (v20 u1) (v20 v1) (v20 w1) l2 (raw_thr u2 v2 w2 u1 v1 w1) (v4 u1) l2 (raw_thr u2 v2 w2 u1 v1 w1) (v4 v1) l2 (raw_thr u2 v2 w2 u1 v1 w1) (v4 w1) l2 (raw_thr u2 v2 w2 u1 v1 w1) (v4 r1) (sub_ok v2 u2) (sub_ok w2 u2) (sub_ok r2 u2) (VN.raw_mono (raw_wSub v1 u1) (by decide)) (VN.raw_mono (raw_wSub w1 u1) (by decide)) (VN.raw_mono (raw_wSub r1 u1) (by decide)) d6s rfl rfl rfl).eqB (beq_iff_eq.2 l6)
   · have l1:=thr_zero u v w u2 v2 w2 hz
     have t1:((thr u v w).2 != 0)=true:=by rw[l1];rfl
     exact(lqbn_p2 a b c u v w r a1 a2 b1 b2 c1 c2 u1 u2 v1 v2 w1 w2 r1 r2 m1 m5 m6 t1 (by rw[m5,m6];rfl) (p6 a1) (p6 b1) (p6 c1) (v6 u1) (v6 v1) (v6 w1) (v6 r1) (ok_parts a2).1 (ok_parts b2).1 (ok_parts c2).1 (VN.raw_mono (PN.raw_iff.1 a1).1 (by decide)) (VN.raw_mono (PN.raw_iff.1 b1).1 (by decide)) (VN.raw_mono (PN.raw_iff.1 c1).1 (by decide)) d6 (v20 u1) (v20 v1) (v20 w1) rfl rfl rfl).eqB (beq_iff_eq.2 l1)
 · obtain⟨k1,k2,k3,k4,k5⟩:=meet_facts a b c a2 b2 c2 hd
   have m1:((meetV a b c).2==0)=true:=beq_iff_eq.2 k1
   have m5:(nSgn (wDet3 a.n b.n c.n)==0)=false:=beq_false_of_ne hd
   have m6:((meetV a b c).2==11)=false:=by rw[k1];rfl
   cases hz:zV (wCross (wSub v u) (wSub w u))
   · obtain⟨l1,l2,l3,l4,l5,l6⟩:=thr_facts u v w r u2 v2 w2 r2 hz
     have t1:((thr u v w).2 != 0)=false:=by rw[l1];rfl
     exact(lqap_p2 a b c u v w r a1 a2 b1 b2 c1 c2 u1 u2 v1 v2 w1 w2 r1 r2 m1 (ne_f k3) (ne_f k4) (ne_f k5) m5 m6 t1 (beq_iff_eq.2 l3) (beq_iff_eq.2 l4) (beq_iff_eq.2 l5) (by rw[m5,m6];rfl) (p6 a1) (p6 b1) (p6 c1) (v6 u1) (v6 v1) (v6 w1) (v6 r1) k2 (p4 a1) (raw_meet a1 b1 c1) k2 (p4 b1) (raw_meet a1 b1 c1) k2 (p4 c1) (raw_meet a1 b1 c1) (ok_parts a2).1 (ok_parts b2).1 (ok_parts c2).1 (VN.raw_mono (PN.raw_iff.1 a1).1 (by decide)) (VN.raw_mono (PN.raw_iff.1 b1).1 (by decide)) (VN.raw_mono (PN.raw_iff.1 c1).1 (by decide)) d6 (v20 u1) (v20 v1) (v20 w1) l2 (raw_thr u2 v2 w2 u1 v1 w1) (v4 u1) l2 (raw_thr u2 v2 w2 u1 v1 w1) (v4 v1) l2 (raw_thr u2 v2 w2 u1 v1 w1) (v4 w1) l2 (raw_thr u2 v2 w2 u1 v1 w1) (v4 r1) (sub_ok v2 u2) (sub_ok w2 u2) (sub_ok r2 u2) (VN.raw_mono (raw_wSub v1 u1) (by decide)) (VN.raw_mono (raw_wSub w1 u1) (by decide)) (VN.raw_mono (raw_wSub r1 u1) (by decide)) d6s rfl rfl rfl).eqB (beq_iff_eq.2 l6)
   · have l1:=thr_zero u v w u2 v2 w2 hz
     have t1:((thr u v w).2 != 0)=true:=by rw[l1];rfl
     exact(lqan_p2 a b c u v w r a1 a2 b1 b2 c1 c2 u1 u2 v1 v2 w1 w2 r1 r2 m1 (ne_f k3) (ne_f k4) (ne_f k5) m5 m6 t1 (by rw[m5,m6];rfl) (p6 a1) (p6 b1) (p6 c1) (v6 u1) (v6 v1) (v6 w1) (v6 r1) k2 (p4 a1) (raw_meet a1 b1 c1) k2 (p4 b1) (raw_meet a1 b1 c1) k2 (p4 c1) (raw_meet a1 b1 c1) (ok_parts a2).1 (ok_parts b2).1 (ok_parts c2).1 (VN.raw_mono (PN.raw_iff.1 a1).1 (by decide)) (VN.raw_mono (PN.raw_iff.1 b1).1 (by decide)) (VN.raw_mono (PN.raw_iff.1 c1).1 (by decide)) d6 (v20 u1) (v20 v1) (v20 w1) rfl rfl rfl).eqB (beq_iff_eq.2 l1)
end Go.Fw
open Go Go.Proofs Go.Proofs.YtcafjpldfnegiaaGreatDoor
namespace Go.Fw
set_option maxRecDepth 100000
def RN.v(x:RN):List Value:=[.bool x.b0,.string x.s0,.bool x.b1,.string x.s1,.bool x.b2,.string x.s2,.bool x.b3,.string x.s3,.bool x.b4,.string x.s4]
abbrev numK:List CT:=[.b,.s,.b,.s,.b,.s,.b,.s,.b,.s]
abbrev vecK:List CT:=[.b,.s,.b,.s,.b,.s,.b,.s,.b,.s,.b,.s,.b,.s,.b,.s,.b,.s,.b,.s,.b,.s,.b,.s,.b,.s,.b,.s,.b,.s]
theorem num_open{ts:List CT}{l:List Value}(h:CTs (.b:: .s:: .b:: .s:: .b:: .s:: .b:: .s:: .b:: .s::ts) l): ∃(x:RN) (m:List Value),l=x.v++m∧CTs ts m:=by
 simp only[CTs,CT.ok]at h
 obtain⟨_,_,rfl,⟨b0,rfl⟩,_,_,rfl,⟨s0,rfl⟩,_,_,rfl,⟨b1,rfl⟩,_,_,rfl,⟨s1,rfl⟩,_,_,rfl,⟨b2,rfl⟩,_,_,rfl,⟨s2,rfl⟩,_,_,rfl,⟨b3,rfl⟩,_,_,rfl,⟨s3,rfl⟩,_,_,rfl,⟨b4,rfl⟩,_,m,rfl,⟨s4,rfl⟩,hm⟩:=h
 exact⟨⟨b0,s0,b1,s1,b2,s2,b3,s3,b4,s4⟩,m,rfl,hm⟩
theorem vec_open{ts:List CT}{l:List Value}(h:CTs (vecK++ts) l): ∃(x y z:RN) (m:List Value),l=x.v++(y.v++(z.v++m))∧CTs ts m:=by
 obtain⟨x,m1,rfl,h1⟩:=num_open h
 obtain⟨y,m2,rfl,h2⟩:=num_open h1
 obtain⟨z,m3,rfl,h3⟩:=num_open h2
 exact⟨x,y,z,m3,rfl,h3⟩
theorem vec_open'{l:List Value}(h:CTs vecK l): ∃x y z:RN,l=x.v++(y.v++z.v):=by
 obtain⟨x,y,z,m,rfl,h4⟩:=vec_open (ts:=[]) h
 obtain rfl:m=[]:=h4
 exact⟨x,y,z,by simp⟩
end Go.Fw
open Go Go.Proofs Go.Proofs.YtcafjpldfnegiaaGreatDoor
namespace Go.Fw
set_option maxRecDepth 100000
theorem plane_open{l:List Value}(h:CTs (vecK++numK) l): ∃x y z d:RN,l=x.v++(y.v++(z.v++d.v)):=by
 obtain⟨x,y,z,m,rfl,hm⟩:=vec_open h
 obtain⟨d,m',rfl,hm'⟩:=num_open (ts:=[]) hm
 obtain rfl:m'=[]:=hm'
 exact⟨x,y,z,d,by simp⟩
theorem vec2_open{l:List Value}(h:CTs (vecK++vecK) l): ∃x y z x' y' z':RN,l=x.v++(y.v++(z.v++(x'.v++(y'.v++z'.v)))):=by
 obtain⟨x,y,z,m,rfl,hm⟩:=vec_open h
 obtain⟨x',y',z',rfl⟩:=vec_open' hm
 exact⟨x,y,z,x',y',z',rfl⟩
end Go.Fw
open Go Go.Proofs Go.Proofs.YtcafjpldfnegiaaGreatDoor
namespace Go.Fw
set_option maxRecDepth 100000
theorem pls3T:flatTy Tryz.prog 8 128=some (vecK++(numK++(vecK++(numK++(vecK++numK))))):=by kernel_rfl
theorem vec4T:flatTy Tryz.prog 8 129=some (vecK++(vecK++(vecK++vecK))):=by kernel_rfl
theorem pls3_open {l : List Value} (h : CTs (vecK ++ (numK ++ (vecK ++ (numK ++ (vecK ++ numK))))) l) : ∃ x y z d x' y' z' d' x'' y'' z'' d'' : RN,
    l=x.v++(y.v++(z.v++(d.v++(x'.v++(y'.v++(z'.v++(d'.v++(x''.v++(y''.v++(z''.v++d''.v)))))))))):=by
 obtain⟨x,y,z,m,rfl,hm⟩:=vec_open h
 obtain⟨d,m1,rfl,h1⟩:=num_open hm
 obtain⟨x',y',z',m2,rfl,h2⟩:=vec_open h1
 obtain⟨d',m3,rfl,h3⟩:=num_open h2
 obtain⟨x'',y'',z'',d'',rfl⟩:=plane_open h3
 exact⟨x,y,z,d,x',y',z',d',x'',y'',z'',d'',rfl⟩
theorem vec4_open {l : List Value} (h : CTs (vecK ++ (vecK ++ (vecK ++ vecK))) l) : ∃ x y z x1 y1 z1 x2 y2 z2 x3 y3 z3 : RN,
    l=x.v++(y.v++(z.v++(x1.v++(y1.v++(z1.v++(x2.v++(y2.v++(z2.v++(x3.v++(y3.v++z3.v)))))))))):=by
 obtain⟨x,y,z,m,rfl,hm⟩:=vec_open h
 obtain⟨x1,y1,z1,m1,rfl,h1⟩:=vec_open hm
 obtain⟨x2,y2,z2,x3,y3,z3,rfl⟩:=vec2_open h1
 exact⟨x,y,z,x1,y1,z1,x2,y2,z2,x3,y3,z3,rfl⟩
def tweC(a b c d e f g h i j k l:RN):CV:= .agg (a.l++(b.l++(c.l++(d.l++(e.l++(f.l++(g.l++(h.l++(i.l++(j.l++(k.l++l.l)))))))))))
theorem rep_twe(I:Imm)(a b c d e f g h i j k l:RN):CV.rep I (tweC a b c d e f g h i j k l) (.agg (a.v++(b.v++(c.v++(d.v++(e.v++(f.v++(g.v++(h.v++(i.v++(j.v++(k.v++l.v))))))))))).toArray):=
 rep_agg I (a.v++(b.v++(c.v++(d.v++(e.v++(f.v++(g.v++(h.v++(i.v++(j.v++(k.v++l.v)))))))))))
end Go.Fw
open Go
namespace Go.Fw
set_option maxRecDepth 100000
theorem points_law(a b c d e f g h i j k l a' b' c' d' e' f' g' h' i' j' k' l':RN):PCall P 21 [tweC a b c d e f g h i j k l,tweC a' b' c' d' e' f' g' h' i' j' k' l'] (.lit (.bool true)):=
 points_true ⟨⟨a,b,c⟩,d⟩ ⟨⟨e,f,g⟩,h⟩ ⟨⟨i,j,k⟩,l⟩ ⟨a',b',c'⟩ ⟨d',e',f'⟩ ⟨g',h',i'⟩ ⟨j',k',l'⟩
end Go.Fw
open Go Go.Proofs Go.Proofs.YtcafjpldfnegiaaGreatDoor
namespace Go.Fw
open Go.ChangeShapes Go.WideShapes Go.ChangeAt Go.RowKit
set_option maxRecDepth 100000
theorem lawCall21 {H : Type} {enc : TypeId × Value → H} (W : World) (base : Nat) (args : Array Value) (ds gs : List (DataW H)) (before : List MemPlace)
    (hval: ∀(j:Nat) t v,Tryz.f21.params[j]?=some t→args[j]?=some v→Value.okWide Tryz.prog W .any base t v)
    (hW:DataW.Whole enc Tryz.prog Tryz.f21.params.toList Rows.planePointsSpec.vars false W args.toList ds gs before):
    Calls Tryz.prog 21 args W fun e W'=>e= .returned (.bool true)∧Below W.heap.size W W':=by
 obtain⟨p,q,hA,hV,_,_,_⟩:=hW
 rw[Tryz.params21]at hA hval
 obtain⟨v0,vs0,d0,ds0,p0,q0,ha0,hd0,_,h0,r0⟩:=trodAll_cons hA
 obtain⟨v1,vs1,d1,ds1,p1,q1,ha1,hd1,_,h1,r1⟩:=trodAll_cons r0
 obtain⟨hz,hzd,_⟩:=trodAll_nil r1
 subst hz ha1
 obtain rfl:args= #[v0,v1]:=by cases args;simp_all
 obtain⟨cs0,rfl,hc0⟩:=open_flat 8 pls3T (by kernel_rfl) (hval 0 128 v0 rfl rfl) h0
 obtain⟨a0,b0,c0,d0,e0,f0,g0,m0,n0,o0,p0,q0,rfl⟩:=pls3_open hc0
 obtain⟨cs1,rfl,hc1⟩:=open_flat 8 vec4T (by kernel_rfl) (hval 1 129 v1 rfl rfl) h1
 obtain⟨a1,b1,c1,d1,e1,f1,g1,m1,n1,o1,p1,q1,rfl⟩:=vec4_open hc1
 exact law_call (points_law a0 b0 c0 d0 e0 f0 g0 m0 n0 o0 p0 q0 a1 b1 c1 d1 e1 f1 g1 m1 n1 o1 p1 q1) ⟨_,_,rfl,rep_twe _ _ _ _ _ _ _ _ _ _ _ _ _,⟨_,_,rfl,rep_twe _ _ _ _ _ _ _ _ _ _ _ _ _,rfl⟩⟩
end Go.Fw
