/- A part of the proof that the law returns true for every input: an executor for the model's code, and what functions of the program compute. -/
import Derived.Test.YtcafjpldfnegiaaGreatDoorB15
import Derived.Test.YtcafjpldfnegiaaGreatDoorB40
import Derived.Test.YtcafjpldfnegiaaGreatDoorB43
import Derived.Test.YtcafjpldfnegiaaGreatDoorB46
open Go
namespace Go.Fw
set_option maxRecDepth 100000
theorem RN.l_inj{x y:RN}(h:x.l=y.l):x=y:=by
 obtain⟨b0,s0,b1,s1,b2,s2,b3,s3,b4,s4⟩:=x
 obtain⟨c0,t0,c1,t1,c2,t2,c3,t3,c4,t4⟩:=y
 unfold RN.l at h
 simp only[List.cons.injEq,and_true,cstr,CV.lit.injEq,Value.bool.injEq,Value.string.injEq]at h
 obtain⟨rfl,h0,rfl,h1,rfl,h2,rfl,h3,rfl,h4⟩:=h
 subst h0 h1 h2 h3 h4
 rfl
theorem ok_kN{x:RN}(h:x.ok=true): ∃k,x=kN k:=by
 obtain⟨k,_,e⟩:=toO_k h
 refine⟨k,RN.l_inj ?_⟩
 rw[e,kN_eq,RN.ofK_l]
noncomputable def kV(a b c:K):VN:=⟨kN a,kN b,kN c⟩
theorem ok_kV{v:VN}(h:v.ok=true): ∃a b c,v=kV a b c:=by
 obtain⟨x,y,z⟩:=v
 have h:ok3 x y z=true:=h
 unfold ok3 at h
 simp only[Bool.and_eq_true]at h
 obtain⟨h1,h2,h3⟩:=h
 obtain⟨a,rfl⟩:=ok_kN h1
 obtain⟨b,rfl⟩:=ok_kN h2
 obtain⟨c,rfl⟩:=ok_kN h3
 exact⟨a,b,c,rfl⟩
theorem kV_ok(a b c:K):(kV a b c).ok=true:=by
 show ok3 (kN a) (kN b) (kN c)=true
 unfold ok3
 rw[kN_ok,kN_ok,kN_ok];rfl
theorem wDot_kV(a b c a' b' c':K):wDot (kV a b c) (kV a' b' c')=kN (a*a'+b*b'+c*c'):=by
 unfold wDot kV
 rw[toV_k,toV_k,kN_eq];rfl
theorem wAdd_kV(a b c a' b' c':K):wAdd (kV a b c) (kV a' b' c')=kV (a+a') (b+b') (c+c'):=by
 unfold wAdd kV
 rw[toV_k,toV_k,kN_eq,kN_eq,kN_eq];rfl
theorem wScale_kV(a b c k:K):wScale (kV a b c) (kN k)=kV (a*k) (b*k) (c*k):=wScale_k a b c k
theorem wMove_kV(a b c:K)(t:Int)(f:Bool):wMove (kV a b c) t f=kV (mvX a b t f) (mvY a b t f) c:=by
 unfold wMove kV nX nY nZ
 dsimp only
 rw[toO_kN,toO_kN,toO_kN,kN_eq,kN_eq,kN_eq];rfl
theorem nCmp_k(a b:K):nCmp (kN a) (kN b)=K.sgn (a-b):=by unfold nCmp;rw[nSub_k,nSgn_k]
theorem and3(x y z:Bool):(x&&(y&&(z&&true)))=true↔x=true∧y=true∧z=true:=by cases x<;>cases y<;>cases z<;>simp
theorem zV_kV(a b c:K):zV (kV a b c)=true↔a=0∧b=0∧c=0:=by
 unfold zV kV
 rw[oV_x,oV_y,oV_z,oN_k]
 dsimp only
 refine(and3 (rnB (kN a) (kN (K.ofInt 0))) (rnB (kN b) (kN (K.ofInt 0))) (rnB (kN c) (kN (K.ofInt 0)))).trans ?_
 exact and_congr (rnB_k _ _) (and_congr (rnB_k _ _) (rnB_k _ _))
noncomputable def kP(a b c d:K):PN:=⟨kV a b c,kN d⟩
theorem kP_ok{a b c d:K}:(kP a b c d).ok=true↔ ¬(a=0∧b=0∧c=0):=by
 unfold PN.ok kP
 dsimp only
 rw[kV_ok,kN_ok,Bool.true_and,Bool.and_true,←zV_kV,Bool.not_eq_true',Bool.not_eq_true]
theorem ok_parts{n:VN}{d:RN}(h:(PN.mk n d).ok=true):n.ok=true∧d.ok=true:=by
 unfold PN.ok at h
 dsimp only at h
 generalize n.ok=x at*
 generalize d.ok=y at*
 generalize zV n=w at*
 revert h
 cases x<;>cases y<;>cases w<;>simp
theorem ok_kP{p:PN}(h:p.ok=true): ∃a b c d,p=kP a b c d:=by
 obtain⟨h1,h3⟩:=ok_parts (n:=p.n) (d:=p.d) h
 obtain⟨a,b,c,e⟩:=ok_kV h1
 obtain⟨k,e'⟩:=ok_kN h3
 refine⟨a,b,c,k,?_⟩
 unfold kP
 rw[←e,←e']
theorem sideV_k{a b c d x y z:K}(h: ¬(a=0∧b=0∧c=0)):sideV (kP a b c d) (kV x y z)=K.sgn (a*x+b*y+c*z-d):=by
 unfold sideV
 rw[kP_ok.2 h,kV_ok,Bool.true_and,if_pos rfl]
 unfold kP
 rw[wDot_kV,nCmp_k]
theorem mv_zero{x y:K}{t:Int}{f:Bool}(h1:mvX x y t f=0)(h2:mvY x y t f=0):x=0∧y=0:=by
 have e1:=mv_dot x y 1 0 t f
 have e2:=mv_dot x y 0 1 t f
 rw[h1,h2]at e1 e2
 constructor
 · have:(0:K)*mvX 1 0 t f+0*mvY 1 0 t f=0:=(show ∀ρ:Nat→K,0*ρ 0+0*ρ 1=0 from fun ρ=>CR.ring ρ rfl) (CR.vr [mvX 1 0 t f,mvY 1 0 t f])
   rw[this]at e1
   have k:x*1+y*0=x:=(show ∀ρ:Nat→K,ρ 0*1+ρ 1*0=ρ 0 from fun ρ=>CR.ring ρ rfl) (CR.vr [x,y])
   rw[k]at e1;exact e1.symm
 · have:(0:K)*mvX 0 1 t f+0*mvY 0 1 t f=0:=(show ∀ρ:Nat→K,0*ρ 0+0*ρ 1=0 from fun ρ=>CR.ring ρ rfl) (CR.vr [mvX 0 1 t f,mvY 0 1 t f])
   rw[this]at e2
   have k:x*0+y*1=y:=(show ∀ρ:Nat→K,ρ 0*0+ρ 1*1=ρ 1 from fun ρ=>CR.ring ρ rfl) (CR.vr [x,y])
   rw[k]at e2;exact e2.symm
theorem side_move{a b c d x y z:K}{t:Int}{f:Bool}(h: ¬(a=0∧b=0∧c=0)):sideV ⟨wMove (kV a b c) t f,kN d⟩ (wMove (kV x y z) t f)=sideV (kP a b c d) (kV x y z):=by
 rw[wMove_kV,wMove_kV,sideV_k h]
 have h': ¬(mvX a b t f=0∧mvY a b t f=0∧c=0):=fun⟨h1,h2,h3⟩=>by
  obtain⟨e1,e2⟩:=mv_zero h1 h2
  exact h ⟨e1,e2,h3⟩
 rw[show(⟨kV (mvX a b t f) (mvY a b t f) c,kN d⟩:PN)=kP (mvX a b t f) (mvY a b t f) c d from rfl,sideV_k h',mv_dot]
theorem side_shift{a b c d x y z x' y' z':K}(h: ¬(a=0∧b=0∧c=0)):sideV ⟨kV a b c,nAdd (kN d) (wDot (kV a b c) (kV x' y' z'))⟩ (wAdd (kV x y z) (kV x' y' z'))=sideV (kP a b c d) (kV x y z):=by
 rw[wDot_kV,nAdd_k,wAdd_kV,sideV_k h,show(⟨kV a b c,kN (d+(a*x'+b*y'+c*z'))⟩:PN)=kP a b c (d+(a*x'+b*y'+c*z'))from rfl,sideV_k h]
 exact congrArg K.sgn ((show ∀ρ:Nat→K,ρ 0*(ρ 4+ρ 7)+ρ 1*(ρ 5+ρ 8)+ρ 2*(ρ 6+ρ 9)-(ρ 3+(ρ 0*ρ 7+ρ 1*ρ 8+ρ 2*ρ 9))=ρ 0*ρ 4+ρ 1*ρ 5+ρ 2*ρ 6-ρ 3 from fun ρ=>CR.ring ρ rfl) (CR.vr [a,b,c,d,x,y,z,x',y',z']))
theorem side_scale{a b c d x y z k:K}(h: ¬(a=0∧b=0∧c=0))(hk:K.sgn k=1):sideV ⟨kV a b c,nMul (kN d) (kN k)⟩ (wScale (kV x y z) (kN k))=sideV (kP a b c d) (kV x y z):=by
 rw[nMul_k,wScale_kV,sideV_k h,show(⟨kV a b c,kN (d*k)⟩:PN)=kP a b c (d*k)from rfl,sideV_k h]
 have e:a*(x*k)+b*(y*k)+c*(z*k)-d*k=(a*x+b*y+c*z-d)*k:=
  (show ∀ρ:Nat→K,ρ 0*(ρ 4*ρ 7)+ρ 1*(ρ 5*ρ 7)+ρ 2*(ρ 6*ρ 7)-ρ 3*ρ 7=(ρ 0*ρ 4+ρ 1*ρ 5+ρ 2*ρ 6-ρ 3)*ρ 7 from fun ρ=>CR.ring ρ rfl) (CR.vr [a,b,c,d,x,y,z,k])
 rw[e,K.sgn_mul,hk,Int.mul_one]
end Go.Fw
open Go
namespace Go.Fw
set_option maxRecDepth 100000
theorem mvV_k{p:PN}{t:Int}{f:Bool}(hp:p.ok=true)(ht:validM t=true):mvV p t f=(⟨wMove p.n t f,p.d⟩,0):=by
 unfold mvV
 rw[hp,ht,Bool.true_and,if_pos rfl]
theorem mvV_0{p:PN}{t:Int}{f:Bool}(ht:validM t=false):mvV p t f=(.zero,1):=by
 unfold mvV
 rw[ht,Bool.and_false,if_neg (by decide)]
theorem shV_k{p:PN}{v:VN}(hp:p.ok=true)(hv:v.ok=true):shV p v=(⟨p.n,nAdd p.d (wDot p.n v)⟩,0):=by
 unfold shV
 rw[hp,hv,Bool.true_and,if_pos rfl]
theorem scV_k{p:PN}{k:RN}(hp:p.ok=true)(hk:k.ok=true)(h: ¬nSgn k≤0):scV p k=(⟨p.n,nMul p.d k⟩,0):=by
 unfold scV
 rw[hp,hk,Bool.true_and,if_pos rfl,if_neg h]
theorem scV_0{p:PN}{k:RN}(hp:p.ok=true)(hk:k.ok=true)(h:nSgn k≤0):scV p k=(.zero,2):=by
 unfold scV
 rw[hp,hk,Bool.true_and,if_pos rfl,if_pos h]
theorem raw_wMove{v:VN}{n:Nat}(t:Int)(f:Bool)(h:v.raw n=true):(wMove v t f).raw (2*n+5)=true:=raw_X t f h
theorem raw_wAdd{v w:VN}{n:Nat}(hv:v.raw n=true)(hw:w.raw n=true):(wAdd v w).raw (n+n+1)=true:=by
 refine ofV_raw ?_
 cases ev:toV v with
 |none=>exact Nat.zero_le _
 |some a=>
  cases ew:toV w with
  |none=>exact Nat.zero_le _
  |some b=>
   obtain⟨x,y,z⟩:=sz_toV ev hv
   obtain⟨x',y',z'⟩:=sz_toV ew hw
   have m1:=K.sz_add a.x b.x
   have m2:=K.sz_add a.y b.y
   have m3:=K.sz_add a.z b.z
   show max (a.x+b.x).sz (max (a.y+b.y).sz (a.z+b.z).sz)≤n+n+1
   omega
theorem raw_wScale{v:VN}{k:RN}{n:Nat}(hv:v.raw n=true)(hk:k.raw n=true):(wScale v k).raw (n+n+1)=true:=by
 refine ofV_raw ?_
 have hk':=osz_toO hk
 cases ev:toV v with
 |none=>exact Nat.zero_le _
 |some a=>
  cases ew:toO k with
  |none=>exact Nat.zero_le _
  |some b=>
   rw[ew]at hk'
   have hk':b.sz≤n:=hk'
   obtain⟨x,y,z⟩:=sz_toV ev hv
   have m1:=K.sz_mul a.x b
   have m2:=K.sz_mul a.y b
   have m3:=K.sz_mul a.z b
   show max (a.x*b).sz (max (a.y*b).sz (a.z*b).sz)≤n+n+1
   omega
theorem raw_wDotn{v w:VN}{n:Nat}(hv:v.raw n=true)(hw:w.raw n=true):(wDot v w).raw (6*n+5)=true:=by
 refine ofO_raw ?_
 cases ev:toV v with
 |none=>exact Nat.zero_le _
 |some a=>
  cases ew:toV w with
  |none=>exact Nat.zero_le _
  |some b=>
   obtain⟨x,y,z⟩:=sz_toV ev hv
   obtain⟨x',y',z'⟩:=sz_toV ew hw
   have m1:=K.sz_mul a.x b.x
   have m2:=K.sz_mul a.y b.y
   have m3:=K.sz_mul a.z b.z
   have m4:=K.sz_add (a.x*b.x) (a.y*b.y)
   have m5:=K.sz_add (a.x*b.x+a.y*b.y) (a.z*b.z)
   show(a.x*b.x+a.y*b.y+a.z*b.z).sz≤6*n+5
   omega
theorem ne_f{a b:Int}(h:a=b):(a != b)=false:=by rw[h];simp
theorem moved_true(p:PN)(u v:VN)(t:Int)(b:Bool):PCall P 22 [p.c,.agg (u.x.l++(u.y.l++(u.z.l++(v.x.l++(v.y.l++v.z.l))))),.agg [ci64 t,.lit (.bool b)]] (.lit (.bool true)):=by
 cases g1:p.raw 10
 · exact lm0_p1 p u v t b g1 rfl
 have P6:p.raw 1000000=true:=PN.raw_mono g1 (by decide)
 cases g2:p.ok
 · exact lm1_p1 p u v t b g1 g2 P6 rfl
 cases g3:u.raw 10
 · exact lm2_p1 p u v t b g1 g2 g3 P6 rfl
 cases g4:v.raw 10
 · exact lm3_p1 p u v t b g1 g2 g3 g4 P6 rfl
 have U6:u.raw 1000000=true:=VN.raw_mono g3 (by decide)
 have V6:v.raw 1000000=true:=VN.raw_mono g4 (by decide)
 cases g5:u.ok
 · exact lm4_p1 p u v t b g1 g2 g3 g4 g5 P6 U6 rfl
 cases g6:v.ok
 · exact lm5_p1 p u v t b g1 g2 g3 g4 g5 g6 P6 U6 V6 rfl
 have P3:p.raw 1000=true:=PN.raw_mono g1 (by decide)
 have U3:u.raw 1000=true:=VN.raw_mono g3 (by decide)
 have V3:v.raw 1000=true:=VN.raw_mono g4 (by decide)
 have U5:u.raw 100000=true:=VN.raw_mono g3 (by decide)
 obtain⟨pn,pd⟩:=PN.raw_iff.1 g1
 obtain⟨vx,_,_⟩:=raw3_iff.1 g4
 have X3:v.x.raw 1000=true:=RN.raw_mono vx (by decide)
 have X6:v.x.raw 1000000=true:=RN.raw_mono vx (by decide)
 have rA:(wAdd u v).raw 1000=true:=VN.raw_mono (raw_wAdd g3 g4) (by decide)
 have rS:(wScale u v.x).raw 1000=true:=VN.raw_mono (raw_wScale g3 vx) (by decide)
 have rM:(wMove u t b).raw 1000=true:=VN.raw_mono (raw_wMove t b g3) (by decide)
 obtain⟨a,c,d,e,rfl⟩:=ok_kP g2
 obtain⟨x,y,z,rfl⟩:=ok_kV g5
 obtain⟨x',y',z',rfl⟩:=ok_kV g6
 have nz:=kP_ok.1 g2
 have hsh:=shV_k g2 g6
 have rsh:(shV (kP a c d e) (kV x' y' z')).1.raw 1000=true:=by
  rw[hsh]
  exact PN.raw_iff.2 ⟨VN.raw_mono pn (by decide),RN.raw_mono (raw_add (RN.raw_mono pd (show 10≤6*10+5 by decide)) (raw_wDotn pn g4)) (by decide)⟩
 have s1:((shV (kP a c d e) (kV x' y' z')).2 != 0)=false:=by rw[hsh];rfl
 have s2:(sideV (shV (kP a c d e) (kV x' y' z')).1 (wAdd (kV x y z) (kV x' y' z')) != sideV (kP a c d e) (kV x y z))=false:=by
  rw[hsh]
  exact ne_f (side_shift nz)
 have main: ∀(vt:validM t=true),((mvV (kP a c d e) t b).2==0)=true∧(sideV (mvV (kP a c d e) t b).1 (wMove (kV x y z) t b) != sideV (kP a c d e) (kV x y z))=false∧(mvV (kP a c d e) t b).1.raw 1000=true:=by
  intro vt
  rw[mvV_k g2 vt]
  exact⟨rfl,ne_f (side_move nz),PN.raw_iff.2 ⟨VN.raw_mono (raw_wMove t b pn) (by decide),RN.raw_mono pd (by decide)⟩⟩
 have other: ∀(vt:validM t=false),((mvV (kP a c d e) t b).2==0)=false:=by
  intro vt
  rw[mvV_0 vt];rfl
 have hx':(kV x' y' z').x.ok=true:=kN_ok x'
 have hsx:nSgn (kV x' y' z').x=K.sgn x':=nSgn_k x'
 by_cases k1:nSgn (kV x' y' z').x≤0
 · have hsc:=scV_0 g2 hx' k1
   have fin:((scV (kP a c d e) (kV x' y' z').x).2==2)=true:=by rw[hsc];rfl
   cases vt:validM t
   · have m1:=other vt
     exact(lmbn_p2 _ _ _ t b g1 g2 g3 g4 g5 g6 m1 vt s1 s2 (decide_eq_true k1) (by rw[m1];rfl) P6 U6 V6 P3 U3 P3 P3 V3 U6 V6 rsh rA P3 X3 X6 rfl).eqB fin
   · obtain⟨m1,m2,m3⟩:=main vt
     exact(lman_p2 _ _ _ t b g1 g2 g3 g4 g5 g6 m1 m2 vt s1 s2 (decide_eq_true k1) (by rw[m1];rfl) P6 U6 V6 P3 U3 P3 U5 m3 rM P3 V3 U6 V6 rsh rA P3 X3 X6 rfl).eqB fin
 · have hsc:=scV_k g2 hx' k1
   have hk:K.sgn x'=1:=by
    rw[hsx]at k1
    rcases K.sgn_vals x' with h|h|h
    · rw[h]at k1;exact absurd (by decide) k1
    · rw[h]at k1;exact absurd (by decide) k1
    · exact h
   have k2:((scV (kP a c d e) (kV x' y' z').x).2==0)=true:=by rw[hsc];rfl
   have fin:(sideV (scV (kP a c d e) (kV x' y' z').x).1 (wScale (kV x y z) (kV x' y' z').x)==sideV (kP a c d e) (kV x y z))=true:=by
    rw[hsc]
    exact beq_iff_eq.2 (side_scale nz hk)
   have rsc:(scV (kP a c d e) (kV x' y' z').x).1.raw 1000=true:=by
    rw[hsc]
    exact PN.raw_iff.2 ⟨VN.raw_mono pn (by decide),RN.raw_mono (raw_mul pd vx) (by decide)⟩
   cases vt:validM t
   · have m1:=other vt
     exact(lmbp_p2 _ _ _ t b g1 g2 g3 g4 g5 g6 m1 vt s1 s2 (decide_eq_false k1) k2 (by rw[m1];rfl) P6 U6 V6 P3 U3 P3 P3 V3 U6 V6 rsh rA P3 X3 X6 U6 X6 rsc rS rfl).eqB fin
   · obtain⟨m1,m2,m3⟩:=main vt
     exact(lmap_p2 _ _ _ t b g1 g2 g3 g4 g5 g6 m1 m2 vt s1 s2 (decide_eq_false k1) k2 (by rw[m1];rfl) P6 U6 V6 P3 U3 P3 U5 m3 rM P3 V3 U6 V6 rsh rA P3 X3 X6 U6 X6 rsc rS rfl).eqB fin
end Go.Fw
open Go Go.Proofs Go.Proofs.YtcafjpldfnegiaaGreatDoor
namespace Go.Fw
set_option maxRecDepth 100000
def RN.v(x:RN):List Value:=[.bool x.b0,.string x.s0,.bool x.b1,.string x.s1,.bool x.b2,.string x.s2,.bool x.b3,.string x.s3,.bool x.b4,.string x.s4]
abbrev numK:List CT:=[.b,.s,.b,.s,.b,.s,.b,.s,.b,.s]
abbrev vecK:List CT:=[.b,.s,.b,.s,.b,.s,.b,.s,.b,.s,.b,.s,.b,.s,.b,.s,.b,.s,.b,.s,.b,.s,.b,.s,.b,.s,.b,.s,.b,.s]
theorem num_open{ts:List CT}{l:List Value}(h:CTs (.b:: .s:: .b:: .s:: .b:: .s:: .b:: .s:: .b:: .s::ts) l): ∃(x:RN) (m:List Value),l=x.v++m∧CTs ts m:=by
 simp only[CTs,CT.ok]at h
 obtain⟨_,_,rfl,⟨b0,rfl⟩,_,_,rfl,⟨s0,rfl⟩,_,_,rfl,⟨b1,rfl⟩,_,_,rfl,⟨s1,rfl⟩,_,_,rfl,⟨b2,rfl⟩,_,_,rfl,⟨s2,rfl⟩,_,_,rfl,⟨b3,rfl⟩,_,_,rfl,⟨s3,rfl⟩,_,_,rfl,⟨b4,rfl⟩,_,m,rfl,⟨s4,rfl⟩,hm⟩:=h
 exact⟨⟨b0,s0,b1,s1,b2,s2,b3,s3,b4,s4⟩,m,rfl,hm⟩
theorem vec_open{ts:List CT}{l:List Value}(h:CTs (vecK++ts) l): ∃(x y z:RN) (m:List Value),l=x.v++(y.v++(z.v++m))∧CTs ts m:=by
 obtain⟨x,m1,rfl,h1⟩:=num_open h
 obtain⟨y,m2,rfl,h2⟩:=num_open h1
 obtain⟨z,m3,rfl,h3⟩:=num_open h2
 exact⟨x,y,z,m3,rfl,h3⟩
theorem vec_open'{l:List Value}(h:CTs vecK l): ∃x y z:RN,l=x.v++(y.v++z.v):=by
 obtain⟨x,y,z,m,rfl,h4⟩:=vec_open (ts:=[]) h
 obtain rfl:m=[]:=h4
 exact⟨x,y,z,by simp⟩
end Go.Fw
open Go Go.Proofs Go.Proofs.YtcafjpldfnegiaaGreatDoor
namespace Go.Fw
set_option maxRecDepth 100000
theorem planeT:flatTy Tryz.prog 8 99=some (vecK++numK):=by kernel_rfl
theorem vec2T:flatTy Tryz.prog 8 132=some (vecK++vecK):=by kernel_rfl
theorem plane_open{l:List Value}(h:CTs (vecK++numK) l): ∃x y z d:RN,l=x.v++(y.v++(z.v++d.v)):=by
 obtain⟨x,y,z,m,rfl,hm⟩:=vec_open h
 obtain⟨d,m',rfl,hm'⟩:=num_open (ts:=[]) hm
 obtain rfl:m'=[]:=hm'
 exact⟨x,y,z,d,by simp⟩
theorem vec2_open{l:List Value}(h:CTs (vecK++vecK) l): ∃x y z x' y' z':RN,l=x.v++(y.v++(z.v++(x'.v++(y'.v++z'.v)))):=by
 obtain⟨x,y,z,m,rfl,hm⟩:=vec_open h
 obtain⟨x',y',z',rfl⟩:=vec_open' hm
 exact⟨x,y,z,x',y',z',rfl⟩
def vec2C(x y z x' y' z':RN):CV:= .agg (x.l++(y.l++(z.l++(x'.l++(y'.l++z'.l)))))
theorem rep_plane(I:Imm)(x y z d:RN):CV.rep I (plR x y z d) (.agg (x.v++(y.v++(z.v++d.v))).toArray):=rep_agg I (x.v++(y.v++(z.v++d.v)))
theorem rep_vec2(I:Imm)(x y z x' y' z':RN):CV.rep I (vec2C x y z x' y' z') (.agg (x.v++(y.v++(z.v++(x'.v++(y'.v++z'.v))))).toArray):=rep_agg I (x.v++(y.v++(z.v++(x'.v++(y'.v++z'.v)))))
end Go.Fw
open Go
namespace Go.Fw
set_option maxRecDepth 100000
theorem moved_law(x y z d x1 y1 z1 x2 y2 z2:RN)(t:Int)(b:Bool):PCall P 22 [plR x y z d,vec2C x1 y1 z1 x2 y2 z2,.agg [ci64 t,.lit (.bool b)]] (.lit (.bool true)):=
 moved_true ⟨⟨x,y,z⟩,d⟩ ⟨x1,y1,z1⟩ ⟨x2,y2,z2⟩ t b
end Go.Fw
open Go Go.Proofs Go.Proofs.YtcafjpldfnegiaaGreatDoor
namespace Go.Fw
open Go.ChangeShapes Go.WideShapes Go.ChangeAt Go.RowKit
set_option maxRecDepth 100000
theorem lawCall22 {H : Type} {enc : TypeId × Value → H} (W : World) (base : Nat) (args : Array Value) (ds gs : List (DataW H)) (before : List MemPlace)
    (hval: ∀(j:Nat) t v,Tryz.f22.params[j]?=some t→args[j]?=some v→Value.okWide Tryz.prog W .any base t v)
    (hW:DataW.Whole enc Tryz.prog Tryz.f22.params.toList Rows.planeMovedSpec.vars false W args.toList ds gs before):
    Calls Tryz.prog 22 args W fun e W'=>e= .returned (.bool true)∧Below W.heap.size W W':=by
 obtain⟨p,q,hA,hV,_,_,_⟩:=hW
 rw[Tryz.params22]at hA hval
 obtain⟨v0,vs0,d0,ds0,p0,q0,ha0,hd0,_,h0,r0⟩:=trodAll_cons hA
 obtain⟨v1,vs1,d1,ds1,p1,q1,ha1,hd1,_,h1,r1⟩:=trodAll_cons r0
 obtain⟨v2,vs2,d2,ds2,p2,q2,ha2,hd2,_,h2,r2⟩:=trodAll_cons r1
 obtain⟨hz,hzd,_⟩:=trodAll_nil r2
 subst hz ha2 ha1
 obtain rfl:args= #[v0,v1,v2]:=by cases args;simp_all
 obtain⟨cs0,rfl,hc0⟩:=open_flat 8 planeT (by kernel_rfl) (hval 0 99 v0 rfl rfl) h0
 obtain⟨x0,y0,z0,d0,rfl⟩:=plane_open hc0
 obtain⟨cs1,rfl,hc1⟩:=open_flat 8 vec2T (by kernel_rfl) (hval 1 132 v1 rfl rfl) h1
 obtain⟨x1,y1,z1,x'1,y'1,z'1,rfl⟩:=vec2_open hc1
 obtain⟨cs2,rfl,hc2⟩:=open_flat 8 (show flatTy Tryz.prog 8 31=some [.i .i64,.b]from by kernel_rfl) (by kernel_rfl) (hval 2 31 v2 rfl rfl) h2
 simp only[CTs,CT.ok]at hc2
 obtain⟨_,_,rfl,⟨n2,rfl,_⟩,_,_,rfl,⟨b2,rfl⟩,rfl⟩:=hc2
 exact law_call (moved_law x0 y0 z0 d0 x1 y1 z1 x'1 y'1 z'1 n2 b2) ⟨_,_,rfl,rep_plane _ _ _ _ _,⟨_,_,rfl,rep_vec2 _ _ _ _ _ _ _,⟨_,_,rfl,rep_agg _ _,rfl⟩⟩⟩
end Go.Fw
