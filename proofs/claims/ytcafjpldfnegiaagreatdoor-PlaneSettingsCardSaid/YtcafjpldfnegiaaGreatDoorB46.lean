/- A part of the proof that the law returns true for every input: an executor for the model's code, and what functions of the program compute. -/
import Derived.Test.YtcafjpldfnegiaaGreatDoorB11
import Derived.Test.YtcafjpldfnegiaaGreatDoorB15
import Derived.Test.YtcafjpldfnegiaaGreatDoorB39
import Derived.Test.YtcafjpldfnegiaaGreatDoorB40
import Derived.Test.YtcafjpldfnegiaaGreatDoorB42
import Derived.Test.YtcafjpldfnegiaaGreatDoorB44
import Derived.Test.YtcafjpldfnegiaaGreatDoorB45
import Derived.KernelRfl
open Go
namespace Go.Fw
set_option maxRecDepth 100000
abbrev ziQ:=(Int×Int×Int)×RN×Int
noncomputable def zcc(e:Int):ziQ:=((0,0,0),.zero,e)
noncomputable def zqb(p:PN)(i:Int)(al:RN)(r:Int×Int×Bool):ziQ:=if r.2.2 then((r.1,r.2.1,i),(X2 (W7 p.d (oN r.1)) al).1,0)else zcc 7
noncomputable def zdm(p:PN):ziQ:=((0,z0E p.n.z,0),(X2 p.d (z8c p.n.z)).1,0)
noncomputable def zhK(s:Int×Int×Bool):Int×Int×Bool:=(s.2.1,s.1,s.2.2)
noncomputable def zga(p:PN)(q:Int×RN×Bool):ziQ:=if q.2.2 then zqb p q.1 q.2.1 (zhK (smV (X2 p.n.z q.2.1).1))else zcc 7
noncomputable def z2q(p:PN):ziQ:=if p.ok then(if z0E p.n.x=0∧z0E p.n.y=0 then zdm p else zga p (z0e p.n.x p.n.y))else zcc 1
def zrk(s:ziQ):CV:= .tup [.agg [j6 s.1.1,j6 s.1.2.1,j6 s.1.2.2],s.2.1.c,j6 s.2.2]
theorem zor{k:K}(h:(smK k).2.2=true):zby k=true∧smK k=(k.c0,k.d,true)∧ -1000≤k.c0∧k.c0≤1000∧k.d≤1000:=by
 unfold smK at h ⊢
 simp only[Bool.and_eq_true,decide_eq_true_eq]at h
 obtain⟨h1,h2,h3,h4,h5,h6⟩:=h
 have e: ∀{z:Int},(z0D z).2=true→(z0D z).1=z:=fun {z} h=>by
  unfold z0D at h ⊢
  split
  · rfl
  · rename_i hn;rw[if_neg hn]at h;cases h
 rw[e h1]at h4 h5
 rw[e h2]at h6
 refine⟨h3,?_,h4,h5,h6⟩
 rw[e h1,e h2,h1,h2,h3,decide_eq_true h4,decide_eq_true h5,decide_eq_true h6];rfl
theorem zcN{z:Int}(h1: -9223372036854775808≤z)(h2:z<9223372036854775808):z0D z=(z,true):=if_pos ⟨h1,h2⟩
theorem zq3(a b:K)(i:Int):zfn (kN a) (kN b) i=kN (a*Y5 i-b*Y0 i):=by unfold zfn;rw[z11,z11,zh9]
theorem zk7(a b:K)(i:Int):zgu (kN a) (kN b) i=kN (a*Y0 i+b*Y5 i):=by unfold zgu;rw[z11,z11,zgU]
theorem zmp{x y:K}(h:y≠0):(X2 (kN x) (kN y)).1.ok=true:=by
 rw[z4N x y (fun e=>h (K.sgn_zero.1 e))]
 exact z6f _
end Go.Fw
open Go
namespace Go.Fw
set_option maxRecDepth 100000
theorem rn0{x:RN}(h:x.ok=true):rnB x (oN 0)=decide (z0E x=0):=by
 obtain⟨a,rfl⟩:=z6K h
 rw[z1p,z2a]
 cases e:rnB (kN a) (kN (K.ofInt 0))
 · refine(decide_eq_false fun h=>?_).symm
   rw[(z8X a (K.ofInt 0)).2 (K.sgn_zero.1 h)]at e
   cases e
 · exact(decide_eq_true (K.sgn_zero.2 ((z8X a _).1 e))).symm
theorem zbN{x y:RN}{k:Nat}(h1:1≤k)(hx:x.raw k=true)(hy:y.raw k=true): ∀(n i:Nat),(z0z x y n i).2.1.raw (4*k+3)=true
 |0,_=>z1q (o:=none) (Nat.zero_le _)
 |n+1,i=>by
  have ih:=zbN h1 hx hy n (i+1)
  have ha:=zdi i h1 hx hy
  unfold z0z
  by_cases c1:z0E (zfn x y i)=0
  · rw[if_pos c1]
    by_cases c2:z0E (zgu x y i)>0
    · rw[if_pos c2];exact ha
    · rw[if_neg c2];exact ih
  · rw[if_neg c1];exact ih
theorem zgn{x y:RN}(hx:x.raw 1000=true)(hy:y.raw 1000=true):(z0e x y).2.1.raw 4003=true:=by
 rw[z6J]
 exact RN.raw_mono (zbN (by decide) hx hy 24 0) (by decide)
theorem znT{a b:K}(n:Nat): ∀i:Nat,(z0z (kN a) (kN b) n i).2.2=true→ ∃j:K,(z0z (kN a) (kN b) n i).2.1=kN j∧j≠0:=by
 induction n with
 |zero=>
  intro i h
  cases h
 |succ n ih=>
  intro i h
  have ih:=ih (i+1)
  unfold z0z at h ⊢
  by_cases h1:z0E (zfn (kN a) (kN b) i)=0
  · rw[if_pos h1]at h ⊢
    by_cases h2:z0E (zgu (kN a) (kN b) i)>0
    · rw[if_pos h2]
      rw[zk7,z1p]at h2
      refine⟨_,zk7 a b i,fun e=>?_⟩
      rw[e,K.sgn_zero.2 rfl]at h2
      exact absurd h2 (by decide)
    · rw[if_neg h2]at h ⊢
      exact ih h
  · rw[if_neg h1]at h ⊢
    exact ih h
theorem zib{a b:K}(h:(z0e (kN a) (kN b)).2.2=true): ∃j:K,(z0e (kN a) (kN b)).2.1=kN j∧j≠0:=by
 rw[z6J]at h ⊢
 exact znT 24 0 h
theorem zrw{q:RN}(hq:q.ok=true)(h:(smV q).2.2=true):0<(smV q).2.1∧(smV q).2.1≤1000∧ -1000≤(smV q).1∧(smV q).1≤1000:=by
 obtain⟨k,rfl⟩:=z6K hq
 have e1:smV (kN k)=smK k:=by unfold smV;rw[z0J]
 rw[e1]at h ⊢
 obtain⟨_,h4,h5,h6,h7⟩:=zor h
 rw[h4]
 have:=k.pos
 exact⟨this,h7,h5,h6⟩
theorem zds(p:PN)(i:Int)(al:RN){s:Int×Int×Bool}(h:s.2.2=true):zqb p i al (zhK s)=((s.2.1,s.1,i),(X2 (W7 p.d (oN s.2.1)) al).1,0):=if_pos h
theorem zgW(p:PN)(i:Int)(al:RN){s:Int×Int×Bool}(h:s.2.2=false):zqb p i al (zhK s)=zcc 7:=if_neg (show ¬s.2.2=true by rw[h];decide)
theorem zba{b:Bool}(h:b=true):(!b)=false:=by rw[h];rfl
theorem zfl{b:Bool}(h:b=false):(!b)=true:=by rw[h];rfl
theorem zh2(p:PN)(hp:p.raw 1000=true):PCall P 77 [p.c] (zrk (z2q p)):=by
 obtain⟨hn,hd⟩:=PN.raw_iff.1 hp
 obtain⟨hx,hy,hz⟩:=z0o.1 hn
 have up: ∀{x:RN} {n:Nat},x.raw n=true→n≤1000000→x.raw 1000000=true:=fun h k=>RN.raw_mono h k
 have P6:p.raw 1000000=true:=PN.raw_mono hp (by decide)
 have Z:=up hz (by decide)
 have D:=up hd (by decide)
 unfold z2q
 cases g:p.ok
 · exact zpz p g P6
 rw[if_pos rfl]
 obtain⟨a,b,c,d,rfl⟩:=znb g
 have ax:(kP a b c d).n.x.ok=true:=z6f a
 have ay:(kP a b c d).n.y.ok=true:=z6f b
 have r:=zgn hx hy
 have rz:=RN.raw_mono hz (show 1000≤4003 by decide)
 have rq:(X2 (kP a b c d).n.z (z0e (kP a b c d).n.x (kP a b c d).n.y).2.1).1.raw 1000000=true:=up (zcp rz r) (by decide)
 have r6:(z0e (kP a b c d).n.x (kP a b c d).n.y).2.1.raw 1000000=true:=up r (by decide)
 have key: ∀e:(z0e (kP a b c d).n.x (kP a b c d).n.y).2.2=true,(X2 (kP a b c d).n.z (z0e (kP a b c d).n.x (kP a b c d).n.y).2.1).1.ok=true:=fun e=>by
  obtain⟨j,h1,h2⟩:=zib (a:=a) (b:=b) e
  rw[show(kP a b c d).n.x=kN a from rfl,show(kP a b c d).n.y=kN b from rfl,h1]
  exact zmp h2
 generalize hq:(X2 (kP a b c d).n.z (z0e (kP a b c d).n.x (kP a b c d).n.y).2.1).1=q at*
 have sides: ∀(e:(z0e (kP a b c d).n.x (kP a b c d).n.y).2.2=true) (e2:(smV q).2.2=true),(-9223372036854775808≤(smV q).2.1∧(smV q).2.1≤9223372036854775807)∧(oN (smV q).2.1).raw 1000000=true∧(W7 (kP a b c d).d (oN (smV q).2.1)).raw 1000000=true:=fun e e2=>by
  obtain⟨b1,b2,_,_⟩:=zrw (key e) e2
  have h:=z0K (n:=1000) (Nat.le_trans (z7A (n:=(smV q).2.1) (by omega) b2) (by decide))
  exact⟨by omega,up h (by decide),up (z0r hd h) (by decide)⟩
 by_cases h1:z0E (kP a b c d).n.x=0
 · have e1:rnB (kP a b c d).n.x (oN 0)=true:=by rw[rn0 ax];exact decide_eq_true h1
   by_cases h2:z0E (kP a b c d).n.y=0
   · have e2:rnB (kP a b c d).n.y (oN 0)=true:=by rw[rn0 ay];exact decide_eq_true h2
     rw[if_pos ⟨h1,h2⟩]
     exact zmP (kP a b c d) g e1 e2 P6 Z (by decide) (by decide) Z D (z9f Z)
   · have e2:rnB (kP a b c d).n.y (oN 0)=false:=by rw[rn0 ay];exact decide_eq_false h2
     rw[if_neg (fun h=>h2 h.2)]
     unfold zga
     cases e3:(z0e (kP a b c d).n.x (kP a b c d).n.y).2.2
     · exact zoT (kP a b c d) g e1 e2 (zfl e3) P6 Z (by decide) (by decide) hx hy
     · rw[if_pos rfl,hq]
       cases e4:(smV q).2.2
       · rw[zgW _ _ _ e4]
         subst hq
         exact zpg (kP a b c d) g e1 e2 (zba e3) (zfl e4) P6 Z (by decide) (by decide) hx hy Z r6 (key e3) rq
       · obtain⟨s1,s2,s3⟩:=sides e3 e4
         rw[zds _ _ _ e4]
         subst hq
         exact znq (kP a b c d) g e1 e2 (zba e3) (zba e4) P6 Z (by decide) (by decide) hx hy Z r6 (key e3) rq s1 D s2 s3 r6
 · have e1:rnB (kP a b c d).n.x (oN 0)=false:=by rw[rn0 ax];exact decide_eq_false h1
   rw[if_neg (fun h=>h1 h.1)]
   unfold zga
   cases e3:(z0e (kP a b c d).n.x (kP a b c d).n.y).2.2
   · exact zlJ (kP a b c d) g e1 (zfl e3) P6 Z (by decide) hx hy
   · rw[if_pos rfl,hq]
     cases e4:(smV q).2.2
     · rw[zgW _ _ _ e4]
       subst hq
       exact zmZ (kP a b c d) g e1 (zba e3) (zfl e4) P6 Z (by decide) hx hy Z r6 (key e3) rq
     · obtain⟨s1,s2,s3⟩:=sides e3 e4
       rw[zds _ _ _ e4]
       subst hq
       exact zmK (kP a b c d) g e1 (zba e3) (zba e4) P6 Z (by decide) hx hy Z r6 (key e3) rq s1 D s2 s3 r6
end Go.Fw
open Go
namespace Go.Fw
set_option maxRecDepth 100000
theorem zhg(p:PN)(hp:p.raw 1000=true):PCall P 77 [p.c] (.tup [.agg [j6 (z2q p).1.1,j6 (z2q p).1.2.1,j6 (z2q p).1.2.2],(z2q p).2.1.c,j6 (z2q p).2.2]):=zh2 p hp
end Go.Fw
open Go
namespace Go.Fw
set_option maxRecDepth 100000
theorem zcy(a b c:K):z0E (kV a b c).x=K.sgn a:=z1p a
theorem zcO(a b c:K):z0E (kV a b c).y=K.sgn b:=z1p b
theorem zdA(a b c:K):z0E (kV a b c).z=K.sgn c:=z1p c
theorem zoB(p:PN)(hp:p.raw 1000=true)(hok:p.ok=true):PCall P 91 [p.c] (.tup [(can p).1.c,j6 (can p).2]):=by
 refine zm9 p hp hok ?_
 obtain⟨a,b,c,d,rfl⟩:=znb hok
 have nz:=zbl.1 hok
 intro h1 h2 h3
 have e1:K.sgn a=0:=by rw[←zcy a b c];exact h1
 have e2:K.sgn b=0:=by rw[←zcO a b c];exact h2
 have e3:K.sgn c=0:=by rw[←zdA a b c];exact h3
 exact nz ⟨K.sgn_zero.1 e1,K.sgn_zero.1 e2,K.sgn_zero.1 e3⟩
def zbB(x:K):K:=if K.sgn x<0 then-x else x
theorem zly(x:K): - -x=x:=(show ∀ρ:Nat→K,- -ρ 0=ρ 0 from fun ρ=>CR.ring ρ rfl) (CR.vr [x])
theorem zhl(x:K):z8c (kN x)=kN (zbB x):=by
 unfold z8c zbB
 rw[z1p]
 split
 · rw[z87]
 · rw[z87,z87,zly]
theorem z9k{x:K}(h:x≠0):zbB x≠0:=by
 unfold zbB
 split
 · intro e
   apply h
   rw[←zly x,e]
   exact(show ∀ρ:Nat→K,-(0:K)=0 from fun ρ=>CR.ring ρ rfl) (CR.vr [x])
 · exact h
def z9G(x:K):K:=K.div (K.ofInt 1) (zbB x)
theorem zlU{x:K}(h:x≠0):z7F (kN x)=kN (z9G x):=by
 unfold z7F z9G
 rw[zhl,z2a,z4N _ _ (fun e=>z9k h (K.sgn_zero.1 e))]
theorem zkT{x z:K}(h:x≠0)(hz:zbB x*z=1):z9G x=z:=K.div_eq (z9k h) hz
theorem zgJ{x:K}(h:x≠0):zbB x*z9G x=1:=K.mul_div _ (z9k h)
def zek(a b c:K):K:=if K.sgn a≠0 then a else if K.sgn b≠0 then b else c
theorem zea{a b c:K}(h: ¬(a=0∧b=0∧c=0)):zek a b c≠0:=by
 unfold zek
 split
 · rename_i h1;exact fun e=>h1 (K.sgn_zero.2 e)
 · rename_i h1
   split
   · rename_i h2;exact fun e=>h2 (K.sgn_zero.2 e)
   · rename_i h2
     intro e
     exact h ⟨K.sgn_zero.1 (Decidable.of_not_not h1),K.sgn_zero.1 (Decidable.of_not_not h2),e⟩
theorem z9h{a b c d x:K}(h:x≠0):z3b (kP a b c d) (kN x)=kP (a*z9G x) (b*z9G x) (c*z9G x) (d*z9G x):=by
 unfold z3b
 rw[zlU h]
 unfold kP
 dsimp only
 rw[z7H,z11]
theorem zjX{a b c d:K}(h: ¬(a=0∧b=0∧c=0)):can (kP a b c d)=(kP (a*z9G (zek a b c)) (b*z9G (zek a b c)) (c*z9G (zek a b c)) (d*z9G (zek a b c)),0):=by
 have hl:=zea h
 have e1:z0E (kP a b c d).n.x=K.sgn a:=zcy a b c
 have e2:z0E (kP a b c d).n.y=K.sgn b:=zcO a b c
 have e3:z0E (kP a b c d).n.z=K.sgn c:=zdA a b c
 unfold can
 rw[e1,e2,e3]
 unfold zek at hl ⊢
 by_cases h1:K.sgn a≠0
 · rw[if_pos h1]at hl ⊢
   rw[if_pos h1,show(kP a b c d).n.x=kN a from rfl,z9h hl]
 · rw[if_neg h1]at hl ⊢
   rw[if_neg h1]
   by_cases h2:K.sgn b≠0
   · rw[if_pos h2]at hl ⊢
     rw[if_pos h2,show(kP a b c d).n.y=kN b from rfl,z9h hl]
   · rw[if_neg h2]at hl ⊢
     rw[if_neg h2,if_pos (fun e=>hl (K.sgn_zero.1 e)),show(kP a b c d).n.z=kN c from rfl,z9h hl]
end Go.Fw
open Go
namespace Go.Fw
set_option maxRecDepth 100000
theorem zdb(x y:K): -x*y= -(x*y):=(show ∀ρ:Nat→K,-ρ 0*ρ 1= -(ρ 0*ρ 1)from fun ρ=>CR.ring ρ rfl) (CR.vr [x,y])
theorem z2i{x k:K}(hk:K.sgn k=1):K.sgn (x*k)=K.sgn x:=by rw[K.sgn_mul,hk,Int.mul_one]
theorem z9Q{x k:K}(hk:K.sgn k=1):zbB (x*k)=zbB x*k:=by
 unfold zbB
 rw[z2i hk]
 split
 · rw[zdb]
 · rfl
theorem mul_ne{x k:K}(h:x≠0)(hk:K.sgn k=1):x*k≠0:=fun e=>h (K.sgn_zero.1 (by rw[←z2i hk,e];exact K.sgn_zero.2 rfl))
theorem zaV{x k:K}(h:x≠0)(hk:K.sgn k=1):k*z9G (x*k)=z9G x:=by
 refine(zkT h ?_).symm
 rw[←K.mul_assoc,←z9Q hk]
 exact zgJ (mul_ne h hk)
theorem zbf{a b c k:K}(hk:K.sgn k=1):zek (a*k) (b*k) (c*k)=zek a b c*k:=by
 unfold zek
 rw[z2i hk,z2i hk]
 split
 · rfl
 · split<;>rfl
theorem z9N{a b c k:K}(h: ¬(a=0∧b=0∧c=0))(hk:K.sgn k=1): ¬(a*k=0∧b*k=0∧c*k=0):=fun⟨h1,h2,h3⟩=>by
 have z: ∀{x:K},x*k=0→x=0:=fun e=>Decidable.by_contra fun n=>mul_ne n hk e
 exact h ⟨z h1,z h2,z h3⟩
theorem zdu{a b c d k:K}(h: ¬(a=0∧b=0∧c=0))(hk:K.sgn k=1):can (kP (a*k) (b*k) (c*k) (d*k))=can (kP a b c d):=by
 rw[zjX (z9N h hk),zjX h,zbf hk]
 have e:=zaV (zea h) hk
 rw[K.mul_assoc,K.mul_assoc,K.mul_assoc,K.mul_assoc,e]
end Go.Fw
open Go IntKind
namespace Go.Fw
set_option maxRecDepth 100000
theorem zmB(p:PN)(g:p.ok=false)(s4_0:PN.raw 1000000 p=true):PCall P 91 [p.c] (.tup [zcR,.lit (.int .i64 1)]):=
 j4 (.r 4 ((z2x (p) s4_0).eqB g) (.c (lq 40 40) (.c (lq 1 1) .nil))) (by kernel_rfl)
end Go.Fw
open Go
namespace Go.Fw
set_option maxRecDepth 100000
noncomputable def z4U(p:PN):PN×Int:=if p.ok then can p else(.zero,1)
theorem z6F(p:PN)(hp:p.raw 1000=true):PCall P 91 [p.c] (.tup [(z4U p).1.c,j6 (z4U p).2]):=by
 have P6:p.raw 1000000=true:=PN.raw_mono hp (by decide)
 unfold z4U
 cases e1:p.ok
 · exact zmB p e1 P6
 · exact zoB p hp e1
end Go.Fw
open Go IntKind
namespace Go.Fw
set_option maxRecDepth 100000
theorem zo7(p q:PN)(h1:((z4U p).2==0)=true)(h2:((z4U q).2==0)=true)(s4_0:PN.raw 1000 p=true)(s12_0:PN.raw 1000 q=true):PCall P 89 [p.c,q.c] (.lit (.bool (rnB (z4U p).fst.n.x (z4U q).fst.n.x&&(rnB (z4U p).fst.n.y (z4U q).fst.n.y&&(rnB (z4U p).fst.n.z (z4U q).fst.n.z&&true))&&(rnB (z4U p).fst.d (z4U q).fst.d&&true)))):=
 j4 (.r 4 (z6F (p) s4_0) (.c (lq 40 40) (.r 12 (z6F (q) s12_0) (.c (lq 40 40) (.b 21 h1 (.b 25 h2 .nil)))))) (by kernel_rfl)
theorem znN(p q:PN)(h1:((z4U p).2==0)=true)(h2:((z4U q).2==0)=false)(s4_0:PN.raw 1000 p=true)(s12_0:PN.raw 1000 q=true):PCall P 89 [p.c,q.c] (.lit (.bool false)):=
 j4 (.r 4 (z6F (p) s4_0) (.c (lq 40 40) (.r 12 (z6F (q) s12_0) (.c (lq 40 40) (.b 21 h1 (.b 25 h2 .nil)))))) (by kernel_rfl)
theorem zoF(p q:PN)(h1:((z4U p).2==0)=false)(s4_0:PN.raw 1000 p=true)(s12_0:PN.raw 1000 q=true):PCall P 89 [p.c,q.c] (.lit (.bool false)):=
 j4 (.r 4 (z6F (p) s4_0) (.c (lq 40 40) (.r 12 (z6F (q) s12_0) (.c (lq 40 40) (.b 21 h1 .nil))))) (by kernel_rfl)
end Go.Fw
open Go
namespace Go.Fw
set_option maxRecDepth 100000
noncomputable def plB(a b:PN):Bool:=rnB a.n.x b.n.x&&(rnB a.n.y b.n.y&&(rnB a.n.z b.n.z&&true))&&(rnB a.d b.d&&true)
noncomputable def zbp(p q:PN):Bool:=(z4U p).2==0&&((z4U q).2==0&&plB (z4U p).1 (z4U q).1)
def zlB(b:Bool):Bool:=b
theorem zmu(p q:PN)(hp:p.raw 1000=true)(hq:q.raw 1000=true):PCall P 89 [p.c,q.c] (.lit (.bool (zbp p q))):=by
 unfold zbp
 cases h1:(z4U p).2==0
 · exact zoF p q h1 hp hq
 · cases h2:(z4U q).2==0
   · exact znN p q h1 h2 hp hq
   · exact zo7 p q h1 h2 hp hq
end Go.Fw
open Go
namespace Go.Fw
set_option maxRecDepth 100000
theorem z2W(x:RN):rnB x x=true:=z3t.2 rfl
theorem zgL(p:PN):(rnB p.n.x p.n.x&&(rnB p.n.y p.n.y&&(rnB p.n.z p.n.z&&true))&&(rnB p.d p.d&&true))=true:=by
 rw[z2W,z2W,z2W,z2W];rfl
end Go.Fw
open Go IntKind
namespace Go.Fw
set_option maxRecDepth 100000
theorem zmF(h v i:Int)(d k:RN)(g:RN.raw 10 d=false):PCall P 17 [.agg [j6 h,j6 v,j6 i],d.c,k.c] (.lit (.bool true)):=
 j4 (.r 4 (z6A) (.r 8 ((z2L (d)).eqB g) .nil)) (by kernel_rfl)
theorem zoh(h v i:Int)(d k:RN)(g:RN.raw 10 d=true)(g2:RN.raw 10 k=false):PCall P 17 [.agg [j6 h,j6 v,j6 i],d.c,k.c] (.lit (.bool true)):=
 j4 (.r 4 (z6A) (.r 8 ((z2L (d)).eqB g) (.r 12 ((z2L (k)).eqB g2) .nil))) (by kernel_rfl)
theorem zou(h v i:Int)(d k:RN)(g:RN.raw 10 d=true)(g2:RN.raw 10 k=true)(e1:((ofP h v i d).snd != 0)=true)(e2:((ofP h v i d).snd==15)=true)(s18_0:RN.raw 1000000 d=true):PCall P 17 [.agg [j6 h,j6 v,j6 i],d.c,k.c] (.lit (.bool true)):=
 j4 (.r 4 (z6A) (.r 8 ((z2L (d)).eqB g) (.r 12 ((z2L (k)).eqB g2) (.r 18 (zgr (h) (v) (i) (d) s18_0) (.c (lq 40 40) (.c e1 (.c e2 (.o 27 (.b true) (.o 30 (.b true) .nil))))))))) (by kernel_rfl)
theorem zmm(h v i:Int)(d k:RN)(g:RN.raw 10 d=true)(g2:RN.raw 10 k=true)(e1:((ofP h v i d).snd != 0)=true)(e2:((ofP h v i d).snd==15)=false)(s18_0:RN.raw 1000000 d=true):PCall P 17 [.agg [j6 h,j6 v,j6 i],d.c,k.c] (.lit (.bool ((ofP h v i d).2==1))):=
 j4 (.r 4 (z6A) (.r 8 ((z2L (d)).eqB g) (.r 12 ((z2L (k)).eqB g2) (.r 18 (zgr (h) (v) (i) (d) s18_0) (.c (lq 40 40) (.c e1 (.c e2 (.o 27 (.b true) (.o 30 (.b false) .nil))))))))) (by kernel_rfl)
end Go.Fw
open Go
namespace Go.Fw
set_option maxRecDepth 100000
theorem zo1(n:VN)(d:RN)(hp:(PN.mk n d).raw 1000=true):PCall P 77 [plR n.x n.y n.z d] (.tup [.agg [j6 (z2q ⟨n,d⟩).1.1,j6 (z2q ⟨n,d⟩).1.2.1,j6 (z2q ⟨n,d⟩).1.2.2],(z2q ⟨n,d⟩).2.1.c,j6 (z2q ⟨n,d⟩).2.2]):=zh2 ⟨n,d⟩ hp
theorem zkK(p:PN)(n:VN)(d:RN)(hp:p.raw 1000=true)(hq:(PN.mk n d).raw 1000=true):PCall P 89 [p.c,plR n.x n.y n.z d] (.lit (.bool (zlB (zbp p ⟨n,d⟩)))):=zmu p ⟨n,d⟩ hp hq
end Go.Fw
open Go
namespace Go.Fw
set_option maxRecDepth 100000
def frK(v h:Int)(hp:0<h)(hg:Nat.gcd h.natAbs v.natAbs=1):K:=⟨v,0,0,0,h,hp,by simp only[X3,hg];rfl⟩
theorem zmj(v h:Int)(hp:0<h)(hg:Nat.gcd h.natAbs v.natAbs=1):K.ofInt h*frK v h hp hg=K.ofInt v:=by
 have e1:frK v h hp hg=K.of v 0 0 0 h:=(K.of_self (frK v h hp hg)).symm
 have h0:h≠0:=by omega
 rw[e1,K.ofInt_of h,K.mul_of (by decide) h0,K.ofInt_of v]
 refine K.of_eq (by omega) (by decide) ?_ ?_ ?_ ?_
 · simp only[Int.mul_one,Int.mul_zero,Int.add_zero,Int.one_mul];exact Int.mul_comm _ _
 all_goals simp
theorem zqR(x m y:K):x*m*y=x*y*m:=(show ∀ρ:Nat→K,ρ 0*ρ 1*ρ 2=ρ 0*ρ 2*ρ 1 from fun ρ=>CR.ring ρ rfl) (CR.vr [x,m,y])
theorem zmV{x:K}(h:K.sgn x=1):x≠0:=fun e=>by rw[e,K.sgn_zero.2 rfl]at h;cases h
theorem zqK: ∀t:_root_.Fin 24,t.val≠0→ ¬(K.sgn (Y5 t.val)=0∧K.sgn (Y0 t.val)>0):=by decide+kernel
theorem zls{i j:Nat}(hi:i<24)(hj:j<i): ¬(K.sgn (Y5 ((j:Int)-i))=0∧K.sgn (Y0 ((j:Int)-i))>0):=by
 have e:((j:Int)-i)%24=((24+j-i:Nat):Int)%24:=by omega
 rw[z5s e,z5I e]
 exact zqK ⟨24+j-i,by omega⟩ (by show 24+j-i≠0;omega)
theorem z34(x:K):x*K.ofInt 1=x:=(show ∀ρ:Nat→K,ρ 0*1=ρ 0 from fun ρ=>CR.ring ρ rfl) (CR.vr [x])
theorem zf4{w:K}(hw:K.sgn w=1){i:Nat}(hi:i<24)(n:Nat): ∀j:Nat,j+n=24→j≤i→z0z (kN (w*Y0 i)) (kN (w*Y5 i)) n j=((i:Int),kN w,true):=by
 have acr: ∀j:Nat,w*Y0 i*Y5 j-w*Y5 i*Y0 j=w*Y5 ((j:Int)-i):=fun j=>by
  have s:=zhH j (-(i:Int))
  rw[zcQ,zd2]at s
  rw[show(j:Int)-i=j+ -(i:Int) by omega,s]
  exact(show ∀ρ:Nat→K,ρ 0*ρ 1*ρ 4-ρ 0*ρ 2*ρ 3=ρ 0*(ρ 4*ρ 1+ρ 3* -ρ 2)from fun ρ=>CR.ring ρ rfl) (CR.vr [w,Y0 i,Y5 i,Y0 j,Y5 j])
 have alo: ∀j:Nat,w*Y0 i*Y0 j+w*Y5 i*Y5 j=w*Y0 ((j:Int)-i):=fun j=>by
  have s:=ziZ j (-(i:Int))
  rw[zcQ,zd2]at s
  rw[show(j:Int)-i=j+ -(i:Int) by omega,s]
  exact(show ∀ρ:Nat→K,ρ 0*ρ 1*ρ 3+ρ 0*ρ 2*ρ 4=ρ 0*(ρ 3*ρ 1-ρ 4* -ρ 2)from fun ρ=>CR.ring ρ rfl) (CR.vr [w,Y0 i,Y5 i,Y0 j,Y5 j])
 induction n with
 |zero=>intro j h1 h2;omega
 |succ n ih=>
  intro j h1 h2
  unfold z0z
  rw[zq3,zk7,z1p,z1p,acr,alo,K.sgn_mul,K.sgn_mul,hw,Int.one_mul,Int.one_mul]
  by_cases h3:j=i
  · subst h3
    rw[Int.sub_self,show K.sgn (Y5 0)=0 by kernel_rfl,show K.sgn (Y0 0)=1 by kernel_rfl,if_pos rfl,if_pos (by decide),show Y0 0=K.ofInt 1 by kernel_rfl,z34]
  · have:=zls hi (show j<i by omega)
    have ih:=ih (j+1) (by omega) (by omega)
    by_cases h4:K.sgn (Y5 ((j:Int)-i))=0
    · rw[if_pos h4,if_neg (fun h5=>this ⟨h4,h5⟩),ih]
    · rw[if_neg h4,ih]
theorem zq5{v:Int}(h:v=1∨v= -1):K.sgn (K.ofInt v)=v∧zbB (K.ofInt v)=K.ofInt 1:=by
 rcases h with rfl|rfl<;>exact⟨by kernel_rfl,by kernel_rfl⟩
theorem zhj {h v i : Int} (ok : z8z h v i = true) (D m : K) (hm : K.sgn m = 1) :
    z2q (kP (K.ofInt h*Y0 i*m) (K.ofInt h*Y5 i*m) (K.ofInt v*m) (D*m))=((h,v,i),kN D,0):=by
 obtain⟨b1,b2,b3,b4,b5,b6,b7,b8⟩:=zc5 ok
 have nm:=zmV hm
 have nx: ∀a b c d:K,(kP a b c d).n.x=kN a∧(kP a b c d).n.y=kN b∧(kP a b c d).n.z=kN c∧(kP a b c d).d=kN d:=fun _ _ _ _=>⟨rfl,rfl,rfl,rfl⟩
 obtain⟨ex,ey,_,_⟩:=nx (K.ofInt h*Y0 i*m) (K.ofInt h*Y5 i*m) (K.ofInt v*m) (D*m)
 unfold z2q
 by_cases h0:h=0
 · have hv : v = 1 ∨ v = -1 := by
     rw[h0]at b5
     have:v.natAbs=1:=by rwa[show(0:Int).natAbs=0 from rfl,Nat.gcd_zero_left]at b5
     omega
   have hi:i=0:=by omega
   obtain⟨sv,av⟩:=zq5 hv
   have zz: ∀x:K,K.ofInt h*x*m=0:=fun x=>by
    rw[h0]
    exact(show ∀ρ:Nat→K,0*ρ 0*ρ 1=0 from fun ρ=>CR.ring ρ rfl) (CR.vr [x,m])
   have vz:K.ofInt v*m≠0:=K.mul_ne (fun e=>by rw[K.sgn_zero.2 e]at sv;omega) nm
   have k1:(kP (K.ofInt h*Y0 i*m) (K.ofInt h*Y5 i*m) (K.ofInt v*m) (D*m)).ok=true:=zbl.2 fun hh=>vz hh.2.2
   rw[k1,if_pos rfl,ex,ey,z1p,z1p,zz,zz,if_pos ⟨K.sgn_zero.2 rfl,K.sgn_zero.2 rfl⟩]
   unfold zdm
   have ab:zbB (K.ofInt v*m)=m:=by rw[z9Q hm,av];exact K.one_mul m
   rw[(nx _ _ _ _).2.2.1,(nx _ _ _ _).2.2.2,z1p,K.sgn_mul,hm,Int.mul_one,sv,zhl,ab,z4N _ _ (by rw[hm];decide),K.div_eq nm (K.mul_comm m D),h0,hi]
 · have hp:0<h:=by omega
   have sh:K.sgn (K.ofInt h)=1:=by rw[K.sgn_int];exact Int.sign_eq_one_of_pos hp
   have hw:K.sgn (K.ofInt h*m)=1:=by rw[K.sgn_mul,sh,hm];rfl
   have nw:=zmV hw
   rw[zqR _ (Y0 i) m,zqR _ (Y5 i) m]at ex ey ⊢
   have cs:=z9o i
   have nz: ¬(K.ofInt h*m*Y0 i=0∧K.ofInt h*m*Y5 i=0):=fun⟨z1,z2⟩=>by
    have e:K.ofInt h*m*Y0 i*Y0 i+K.ofInt h*m*Y5 i*Y5 i=K.ofInt h*m*(Y0 i*Y0 i+Y5 i*Y5 i):=(show ∀ρ:Nat→K,ρ 0*ρ 1*ρ 1+ρ 0*ρ 2*ρ 2=ρ 0*(ρ 1*ρ 1+ρ 2*ρ 2)from fun ρ=>CR.ring ρ rfl) (CR.vr [K.ofInt h*m,Y0 i,Y5 i])
    rw[cs,z34,z1,z2]at e
    refine nw (e.symm.trans ?_)
    exact(show ∀ρ:Nat→K,0*ρ 0+0*ρ 1=0 from fun ρ=>CR.ring ρ rfl) (CR.vr [Y0 i,Y5 i])
   have k1:(kP (K.ofInt h*m*Y0 i) (K.ofInt h*m*Y5 i) (K.ofInt v*m) (D*m)).ok=true:=zbl.2 fun hh=>nz ⟨hh.1,hh.2.1⟩
   obtain⟨t,rfl⟩:=Int.eq_ofNat_of_zero_le b6
   have fd:=zf4 hw (i:=t) (by omega) 24 0 rfl (by omega)
   rw[k1,if_pos rfl,ex,ey,z1p,z1p,if_neg (fun hh=>nz ⟨K.sgn_zero.1 hh.1,K.sgn_zero.1 hh.2⟩),z6J,fd]
   unfold zga
   rw[if_pos rfl]
   have dv:K.div (K.ofInt v*m) (K.ofInt h*m)=frK v h hp b5:=by
    refine K.div_eq nw ?_
    rw[zqR,zmj]
   have sq:smV (kN (frK v h hp b5))=(v,h,true):=by
    unfold smV
    rw[z0J]
    show smK (frK v h hp b5)=_
    unfold smK zby
    show((z0D v).1,(z0D h).1,(z0D v).2&&((z0D h).2&&(decide (((0:Int)=0)∧(0:Int)=0∧(0:Int)=0)&&(decide ((z0D v).1≥ -1000)&&(decide ((z0D v).1≤1000)&&decide ((z0D h).1≤1000))))))=_
    rw[zcN (z:=v) (by omega) (by omega),zcN (z:=h) (by omega) (by omega),decide_eq_true (show v≥ -1000 from b3),decide_eq_true b4,decide_eq_true b2];rfl
   rw[(nx _ _ _ _).2.2.1,z4N _ _ (by rw[hw];decide),dv,sq,zds _ _ _ rfl,(nx _ _ _ _).2.2.2,z2a,z11,z4N _ _ (by rw[hw];decide)]
   have dd:K.div (D*m*K.ofInt h) (K.ofInt h*m)=D:=K.div_eq nw ((show ∀ρ:Nat→K,ρ 2*ρ 1*ρ 0=ρ 0*ρ 1*ρ 2 from fun ρ=>CR.ring ρ rfl) (CR.vr [D,m,K.ofInt h]))
   rw[dd]
end Go.Fw
open Go IntKind
namespace Go.Fw
set_option maxRecDepth 100000
theorem zmT(h v i:Int)(d k:RN)(g:RN.raw 10 d=true)(g2:RN.raw 10 k=true)(e1:((ofP h v i d).snd != 0)=false)(f1:((z2q (ofP h v i d).fst).snd.snd != 0)=false)(c1:(!((z2q (ofP h v i d).fst).fst.fst==h&&((z2q (ofP h v i d).fst).fst.snd.fst==v&&((z2q (ofP h v i d).fst).fst.snd.snd==i&&true))))=false)(x1:(!rnB (z2q (ofP h v i d).fst).snd.fst d)=false)(n1:decide (z0E k≤0)=true)(s18_0:RN.raw 1000000 d=true)(s29_0:PN.raw 1000 (ofP h v i d).fst=true)(s53_0:RN.raw 1000000 k=true):PCall P 17 [.agg [j6 h,j6 v,j6 i],d.c,k.c] (.lit (.bool true)):=
 j4 (.r 4 (z6A) (.r 8 ((z2L (d)).eqB g) (.r 12 ((z2L (k)).eqB g2) (.r 18 (zgr (h) (v) (i) (d) s18_0) (.c (lq 40 40) (.c e1 (.o 27 (.b false) (.r 29 (zhg ((ofP h v i d).fst) s29_0) (.c (lq 3 3) (.c (lq 10 10) (.c f1 (.c c1 (.c x1 (.o 41 (.b false) (.o 46 (.b false) (.o 51 (.b false) (.r 53 (zcd (k) s53_0) (.c n1 (.o 55 (.b true) .nil))))))))))))))))))) (by kernel_rfl)
theorem zlM(h v i:Int)(d k:RN)(g:RN.raw 10 d=true)(g2:RN.raw 10 k=true)(e1:((ofP h v i d).snd != 0)=false)(f1:((z2q (ofP h v i d).fst).snd.snd != 0)=false)(c1:(!((z2q (ofP h v i d).fst).fst.fst==h&&((z2q (ofP h v i d).fst).fst.snd.fst==v&&((z2q (ofP h v i d).fst).fst.snd.snd==i&&true))))=false)(x1:(!rnB (z2q (ofP h v i d).fst).snd.fst d)=false)(n1:decide (z0E k≤0)=false)(f2:((z2q {n:=z05 (ofP h v i d).fst.n k,d:=W7 (ofP h v i d).fst.d k}).snd.snd==0)=true)(c2:((z2q {n:=z05 (ofP h v i d).fst.n k,d:=W7 (ofP h v i d).fst.d k}).fst.fst==h&&((z2q {n:=z05 (ofP h v i d).fst.n k,d:=W7 (ofP h v i d).fst.d k}).fst.snd.fst==v&&((z2q {n:=z05 (ofP h v i d).fst.n k,d:=W7 (ofP h v i d).fst.d k}).fst.snd.snd==i&&true)))=true)(x2:rnB (z2q {n:=z05 (ofP h v i d).fst.n k,d:=W7 (ofP h v i d).fst.d k}).snd.fst d=true)(s18_0:RN.raw 1000000 d=true)(s29_0:PN.raw 1000 (ofP h v i d).fst=true)(s53_0:RN.raw 1000000 k=true)(s59_0:VN.raw 1000000 (ofP h v i d).fst.n=true)(s59_1:RN.raw 1000000 k=true)(s63_0:RN.raw 1000000 (ofP h v i d).fst.d=true)(s63_1:RN.raw 1000000 k=true)(s68_0:PN.raw 1000 {n:=z05 (ofP h v i d).fst.n k,d:=W7 (ofP h v i d).fst.d k}=true)(s91_0:PN.raw 1000 (ofP h v i d).fst=true)(s91_1:PN.raw 1000 {n:=z05 (ofP h v i d).fst.n k,d:=W7 (ofP h v i d).fst.d k}=true):PCall P 17 [.agg [j6 h,j6 v,j6 i],d.c,k.c] (.lit (.bool (zlB (zbp (ofP h v i d).fst {n:=z05 (ofP h v i d).fst.n k,d:=W7 (ofP h v i d).fst.d k})))):=
 j4 (.r 4 (z6A) (.r 8 ((z2L (d)).eqB g) (.r 12 ((z2L (k)).eqB g2) (.r 18 (zgr (h) (v) (i) (d) s18_0) (.c (lq 40 40) (.c e1 (.o 27 (.b false) (.r 29 (zhg ((ofP h v i d).fst) s29_0) (.c (lq 3 3) (.c (lq 10 10) (.c f1 (.c c1 (.c x1 (.o 41 (.b false) (.o 46 (.b false) (.o 51 (.b false) (.r 53 (zcd (k) s53_0) (.c n1 (.o 55 (.b false) (.r 59 (zbG ((ofP h v i d).fst.n) (k) s59_0 s59_1) (.r 63 (zoS ((ofP h v i d).fst.d) (k) s63_0 s63_1) (.c (lq 40 40) (.r 68 (zo1 (z05 (ofP h v i d).fst.n k) (W7 (ofP h v i d).fst.d k) s68_0) (.c (lq 3 3) (.c (lq 10 10) (.c f2 (.c c2 (.c x2 (.o 78 (.b true) (.o 83 (.b true) (.o 88 (.b true) (.r 91 (zkK ((ofP h v i d).fst) (z05 (ofP h v i d).fst.n k) (W7 (ofP h v i d).fst.d k) s91_0 s91_1) .nil)))))))))))))))))))))))))))))))) (by kernel_rfl)
end Go.Fw
open Go
namespace Go.Fw
set_option maxRecDepth 100000
theorem zna(h v i:Int):zqe h v i=kV (K.ofInt h*Y0 i) (K.ofInt h*Y5 i) (K.ofInt v):=by
 unfold zqe kV
 rw[z2a,z2a,z11,z11]
theorem zk5(h v i:Int){d:RN}(hd:d.raw 10=true):(ofP h v i d).1.raw 10=true:=by
 unfold ofP
 cases h1:d.ok
 · exact z5V _
 cases h2:z8z h v i
 · exact z5V _
 · have b:=zc5 h2
   have o:=z0K (n:=2) (z7A (n:=h) (by omega) (by omega))
   refine PN.raw_iff.2 ⟨z0o.2 ⟨?_,?_,?_⟩,hd⟩
   · exact RN.raw_mono (z0r o (z5t i (by decide))) (by decide)
   · exact RN.raw_mono (z0r o (z5P i (by decide))) (by decide)
   · exact z0K (Nat.le_trans (z7A (n:=v) (by omega) (by omega)) (by decide))
theorem zev{p:PN}{s:Int×Int×Int}{d:RN}(h:z2q p=(s,d,0)):p.ok=true:=by
 cases e:p.ok
 · unfold z2q at h
   rw[e]at h
   have:(zcc 1).2.2=0:=by
    have:=congrArg (fun x:ziQ=>x.2.2) h
    exact this
   cases this
 · rfl
theorem zab(h v i:Int):(h==h&&(v==v&&(i==i&&true)))=true:=by rw[beq_self_eq_true,beq_self_eq_true,beq_self_eq_true];rfl
theorem zb1{a b c d m:K}(nz: ¬(a=0∧b=0∧c=0))(hm:K.sgn m=1):zbp (kP a b c d) (kP (a*m) (b*m) (c*m) (d*m))=true:=by
 have e1:z4U (kP a b c d)=can (kP a b c d):=by unfold z4U;rw[zbl.2 nz];rfl
 have e2:z4U (kP (a*m) (b*m) (c*m) (d*m))=can (kP a b c d):=by
  unfold z4U
  rw[zbl.2 (z9N nz hm),if_pos rfl]
  exact zdu nz hm
 have e3:(can (kP a b c d)).2=0:=by rw[zjX nz]
 unfold zbp
 rw[e1,e2,e3]
 show plB _ _=true
 exact zgL _
theorem zns(n:VN)(d:RN){a b c e:K}(h1:n=kV a b c)(h2:d=kN e):(⟨n,d⟩:PN)=kP a b c e:=by rw[h1,h2];rfl
theorem z6N(h v i:Int)(d k:RN):PCall P 17 [.agg [j6 h,j6 v,j6 i],d.c,k.c] (.lit (.bool true)):=by
 cases g:d.raw 10
 · exact zmF h v i d k g
 cases g2:k.raw 10
 · exact zoh h v i d k g g2
 have D6:d.raw 1000000=true:=RN.raw_mono g (by decide)
 have K6:k.raw 1000000=true:=RN.raw_mono g2 (by decide)
 have r1:=zk5 h v i g
 have r1':(ofP h v i d).1.raw 1000=true:=PN.raw_mono r1 (by decide)
 cases h1:d.ok
 · have e:(ofP h v i d).2=1:=by unfold ofP;rw[h1];rfl
   exact(zmm h v i d k g g2 (by rw[e];rfl) (by rw[e];rfl) D6).eqB (by rw[e];rfl)
 cases h2:z8z h v i
 · have e:(ofP h v i d).2=15:=by unfold ofP;rw[h1,h2];rfl
   exact zou h v i d k g g2 (by rw[e];rfl) (by rw[e];rfl) D6
 obtain⟨D,rfl⟩:=z6K h1
 have eo:ofP h v i (kN D)=(kP (K.ofInt h*Y0 i) (K.ofInt h*Y5 i) (K.ofInt v) D,0):=by
  unfold ofP
  rw[h1,h2,if_pos rfl,if_pos rfl,zna];rfl
 have s1:=zhj h2 D (K.ofInt 1) (by kernel_rfl)
 rw[z34,z34,z34,z34]at s1
 have e1:((ofP h v i (kN D)).2 != 0)=false:=by rw[eo];rfl
 have s1':z2q (ofP h v i (kN D)).1=((h,v,i),kN D,0):=by rw[eo];exact s1
 have f1:((z2q (ofP h v i (kN D)).1).2.2 != 0)=false:=by rw[s1'];rfl
 have c1:(!((z2q (ofP h v i (kN D)).1).1.1==h&&((z2q (ofP h v i (kN D)).1).1.2.1==v&&((z2q (ofP h v i (kN D)).1).1.2.2==i&&true))))=false:=by
  rw[s1']
  show(!(h==h&&(v==v&&(i==i&&true))))=false
  rw[zab];rfl
 have x1:(!rnB (z2q (ofP h v i (kN D)).1).2.1 (kN D))=false:=by
  rw[s1']
  show(!rnB (kN D) (kN D))=false
  rw[z2W];rfl
 by_cases n1:z0E k≤0
 · exact zmT h v i (kN D) k g g2 e1 f1 c1 x1 (decide_eq_true n1) D6 r1' K6
 have kok:k.ok=true:=by
  cases e:k.ok
  · refine absurd ?_ n1
    unfold z0E
    rw[z99 e];decide
  · rfl
 obtain⟨m,rfl⟩:=z6K kok
 have hm:K.sgn m=1:=by
  rw[z1p]at n1
  rcases K.sgn_vals m with h|h|h
  · rw[h]at n1;exact absurd (by decide) n1
  · rw[h]at n1;exact absurd (by decide) n1
  · exact h
 have eq:(⟨z05 (ofP h v i (kN D)).1.n (kN m),W7 (ofP h v i (kN D)).1.d (kN m)⟩:PN)=kP (K.ofInt h*Y0 i*m) (K.ofInt h*Y5 i*m) (K.ofInt v*m) (D*m):=by
  rw[eo]
  exact zns _ _ (z7H _ _ _ _) (z11 _ _)
 obtain⟨rn,rd⟩:=PN.raw_iff.1 r1
 have rq:(⟨z05 (ofP h v i (kN D)).1.n (kN m),W7 (ofP h v i (kN D)).1.d (kN m)⟩:PN).raw 1000=true:=
  PN.raw_iff.2 ⟨VN.raw_mono (zaO rn g2) (by decide),RN.raw_mono (z0r rd g2) (by decide)⟩
 have s2:z2q (⟨z05 (ofP h v i (kN D)).1.n (kN m),W7 (ofP h v i (kN D)).1.d (kN m)⟩:PN)=((h,v,i),kN D,0):=by rw[eq];exact zhj h2 D m hm
 refine(zlM h v i (kN D) (kN m) g g2 e1 f1 c1 x1 (decide_eq_false n1) ?_ ?_ ?_ D6 r1' K6 (VN.raw_mono rn (by decide)) K6 (RN.raw_mono rd (by decide)) K6 rq r1' rq).eqB ?_
 · rw[s2];rfl
 · rw[s2];exact zab h v i
 · rw[s2];exact z2W _
 · rw[eq,eo]
   exact zb1 (zbl.1 (zev s1)) hm
end Go.Fw
open Go
namespace Go.Fw
theorem z7S(h v i:Int)(d k:RN):PCall P 17 [.agg [j6 h,j6 v,j6 i],d.c,k.c] (.lit (.bool true)):=z6N h v i d k
end Go.Fw
open Go Go.Proofs Go.Proofs.YtcafjpldfnegiaaGreatDoor
namespace Go.Fw
set_option maxRecDepth 100000
def RN.v(x:RN):List Value:=[.bool x.b0,.string x.s0,.bool x.b1,.string x.s1,.bool x.b2,.string x.s2,.bool x.b3,.string x.s3,.bool x.b4,.string x.s4]
abbrev zr3:List CT:=[.b,.s,.b,.s,.b,.s,.b,.s,.b,.s]
theorem zeL{ts:List CT}{l:List Value}(h:CTs (.b:: .s:: .b:: .s:: .b:: .s:: .b:: .s:: .b:: .s::ts) l): ∃(x:RN) (m:List Value),l=x.v++m∧CTs ts m:=by
 simp only[CTs,CT.ok]at h
 obtain⟨_,_,rfl,⟨b0,rfl⟩,_,_,rfl,⟨s0,rfl⟩,_,_,rfl,⟨b1,rfl⟩,_,_,rfl,⟨s1,rfl⟩,_,_,rfl,⟨b2,rfl⟩,_,_,rfl,⟨s2,rfl⟩,_,_,rfl,⟨b3,rfl⟩,_,_,rfl,⟨s3,rfl⟩,_,_,rfl,⟨b4,rfl⟩,_,m,rfl,⟨s4,rfl⟩,hm⟩:=h
 exact⟨⟨b0,s0,b1,s1,b2,s2,b3,s3,b4,s4⟩,m,rfl,hm⟩
end Go.Fw
open Go Go.Proofs Go.Proofs.YtcafjpldfnegiaaGreatDoor
namespace Go.Fw
set_option maxRecDepth 100000
theorem zr0:z4T Tryz.prog 8 39=some zr3:=by kernel_rfl
theorem z8t{l:List Value}(h:CTs zr3 l): ∃x:RN,l=x.v:=by
 obtain⟨x,m,rfl,hm⟩:=zeL (ts:=[]) h
 obtain rfl:m=[]:=hm
 exact⟨x,by simp⟩
theorem zdO(I:Imm)(x:RN):CV.rep I x.c (.agg x.v.toArray):=zdg I x.v
end Go.Fw
open Go Go.Proofs Go.Proofs.YtcafjpldfnegiaaGreatDoor
namespace Go.Fw
open Go.ChangeShapes Go.WideShapes Go.ChangeAt Go.RowKit
set_option maxRecDepth 100000
theorem zdD {H : Type} {enc : TypeId × Value → H} (W : World) (base : Nat) (args : Array Value) (ds gs : List (DataW H)) (before : List MemPlace)
    (hval: ∀(j:Nat) t v,Tryz.f17.params[j]?=some t→args[j]?=some v→Value.okWide Tryz.prog W .any base t v)
    (hW:DataW.Whole enc Tryz.prog Tryz.f17.params.toList Rows.planeSettingsSpec.vars false W args.toList ds gs before):
    Calls Tryz.prog 17 args W fun e W'=>e= .returned (.bool true)∧Below W.heap.size W W':=by
 obtain⟨p,q,hA,hV,_,_,_⟩:=hW
 rw[Tryz.params17]at hA hval
 obtain⟨v0,vs0,d0,ds0,p0,q0,ha0,hd0,_,h0,r0⟩:=trodAll_cons hA
 obtain⟨v1,vs1,d1,ds1,p1,q1,ha1,hd1,_,h1,r1⟩:=trodAll_cons r0
 obtain⟨v2,vs2,d2,ds2,p2,q2,ha2,hd2,_,h2,r2⟩:=trodAll_cons r1
 obtain⟨hz,hzd,_⟩:=trodAll_nil r2
 subst hz ha2 ha1
 obtain rfl:args= #[v0,v1,v2]:=by cases args;simp_all
 obtain⟨cs0,rfl,hc0⟩:=z5i 8 (show z4T Tryz.prog 8 97=some [.i .i64,.i .i64,.i .i64]from by kernel_rfl) (by kernel_rfl) (hval 0 97 v0 rfl rfl) h0
 simp only[CTs,CT.ok]at hc0
 obtain⟨_,_,rfl,⟨n0,rfl,_⟩,_,_,rfl,⟨m0,rfl,_⟩,_,_,rfl,⟨k0,rfl,_⟩,rfl⟩:=hc0
 obtain⟨cs1,rfl,hc1⟩:=z5i 8 zr0 (by kernel_rfl) (hval 1 39 v1 rfl rfl) h1
 obtain⟨x1,rfl⟩:=z8t hc1
 obtain⟨cs2,rfl,hc2⟩:=z5i 8 zr0 (by kernel_rfl) (hval 2 39 v2 rfl rfl) h2
 obtain⟨x2,rfl⟩:=z8t hc2
 exact zgy (z7S n0 m0 k0 x1 x2) ⟨_,_,rfl,zdg _ _,⟨_,_,rfl,zdO _ _,⟨_,_,rfl,zdO _ _,rfl⟩⟩⟩
end Go.Fw
