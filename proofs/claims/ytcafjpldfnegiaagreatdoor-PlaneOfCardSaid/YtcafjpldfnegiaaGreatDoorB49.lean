/- A part of the proof that the law returns true for every input: an executor for the model's code, and what functions of the program compute. -/
import Derived.Test.YtcafjpldfnegiaaGreatDoorB11
import Derived.Test.YtcafjpldfnegiaaGreatDoorB15
import Derived.Test.YtcafjpldfnegiaaGreatDoorB41
import Derived.Test.YtcafjpldfnegiaaGreatDoorB44
import Derived.Test.YtcafjpldfnegiaaGreatDoorB45
import Derived.Test.YtcafjpldfnegiaaGreatDoorB46
import Derived.Test.YtcafjpldfnegiaaGreatDoorB47
import Derived.Test.YtcafjpldfnegiaaGreatDoorB48
import Derived.KernelRfl
open Go
namespace Go.Fw
set_option maxRecDepth 100000
abbrev zlu:=(Int×Int×Int)×RN×Int
noncomputable def zbV(e:Int):zlu:=((0,0,0),.zero,e)
noncomputable def zeM(p:PN)(i:Int)(al:RN)(r:Int×Int×Bool):zlu:=if r.2.2 then((r.1,r.2.1,i),(J8 (J9 p.d (oN r.1)) al).1,0)else zbV 7
noncomputable def ziC(p:PN):zlu:=((0,z0a p.n.z,0),(J8 p.d (z70 p.n.z)).1,0)
noncomputable def zbk(s:Int×Int×Bool):Int×Int×Bool:=(s.2.1,s.1,s.2.2)
noncomputable def zbv(p:PN)(q:Int×RN×Bool):zlu:=if q.2.2 then zeM p q.1 q.2.1 (zbk (smV (J8 p.n.z q.2.1).1))else zbV 7
noncomputable def z3g(p:PN):zlu:=if p.ok then(if z0a p.n.x=0∧z0a p.n.y=0 then ziC p else zbv p (z0m p.n.x p.n.y))else zbV 1
def zrH(s:zlu):CV:= .tup [.agg [j4 s.1.1,j4 s.1.2.1,j4 s.1.2.2],s.2.1.c,j4 s.2.2]
noncomputable def z2C(p:PN):Nat→Nat→zlu
 |0,_=>zbV 7
 |d+1,i=>if z0a (z9A p.n.x p.n.y i)=0 then(if z0a (z5r p.n.x p.n.y i)<0 then z2C p d (i+1)else zeM p i (z5r p.n.x p.n.y i) (z02 (J8 p.n.z (z5r p.n.x p.n.y i)).1))else z2C p d (i+1)
theorem zhs{k:K}(h:(smK k).2.2=true):z6A k=true∧smK k=(k.c0,k.d,true)∧ -1000≤k.c0∧k.c0≤1000∧k.d≤1000:=by
 unfold smK at h ⊢
 simp only[Bool.and_eq_true,decide_eq_true_eq]at h
 obtain⟨h1,h2,h3,h4,h5,h6⟩:=h
 have e: ∀{z:Int},(z0e z).2=true→(z0e z).1=z:=fun {z} h=>by
  unfold z0e at h ⊢
  split
  · rfl
  · rename_i hn;rw[if_neg hn]at h;cases h
 rw[e h1]at h4 h5
 rw[e h2]at h6
 refine⟨h3,?_,h4,h5,h6⟩
 rw[e h1,e h2,h1,h2,h3,decide_eq_true h4,decide_eq_true h5,decide_eq_true h6];rfl
theorem zcn{z:Int}(h1: -9223372036854775808≤z)(h2:z<9223372036854775808):z0e z=(z,true):=if_pos ⟨h1,h2⟩
theorem z9k(p:PN)(i:Int)(al q:RN)(hq:q.ok=true):zeM p i al (zbk (smV q))=zeM p i al (z02 q):=by
 obtain⟨k,rfl⟩:=z5o hq
 have hd:=k.pos
 have e1:smV (kN k)=smK k:=by unfold smV;rw[z0o]
 have e2:z02 (kN k)=if z6A k then((z4e k.d).1,(z4e k.c0).1,(z4e k.d).2&&(z4e k.c0).2)else(0,0,false):=by
  unfold z02 zf2 z5k z6w
  rw[z0o]
 rw[e1,e2]
 cases h:(smK k).2.2
 · have e : (if z6A k then ((z4e k.d).1, (z4e k.c0).1, (z4e k.d).2 && (z4e k.c0).2) else (0, 0, false)).2.2 = false := by
     cases hr:z6A k
     · rfl
     · rw[if_pos rfl]
       unfold smK at h
       rw[hr,Bool.true_and]at h
       show((z4e k.d).2&&(z4e k.c0).2)=false
       unfold z4e
       cases a0:(z0e k.c0).2
       · rw[Bool.false_and,Bool.false_and,Bool.and_false]
       · cases a1:(z0e k.d).2
         · rfl
         · rw[a0,a1]at h
           revert h
           generalize (z0e k.c0).1=u
           have hk:z0e k.d=(k.d,true):=by
            unfold z0e at a1 ⊢
            split
            · rfl
            · rename_i hn;rw[if_neg hn]at a1;cases a1
           rw[hk]
           simp only[Bool.true_and,Bool.and_eq_false_iff,decide_eq_false_iff_not]
           omega
   unfold zeM zbk
   simp only
   rw[h,e];rfl
 · obtain⟨h3,h4,h5,h6,h7⟩:=zhs h
   rw[h4,h3,if_pos rfl]
   unfold zbk z4e
   rw[zcn (z:=k.c0) (by omega) (by omega),zcn (z:=k.d) (by omega) (by omega)]
   simp only
   rw[decide_eq_true (show k.c0≥ -1000 by omega),decide_eq_true (show k.c0≤1000 by omega),decide_eq_true (show k.d≥ -1000 by omega),decide_eq_true (show k.d≤1000 by omega)];rfl
theorem zrU(a b:K)(i:Int):z9A (kN a) (kN b) i=kN (a*Y0 i-b*Z8 i):=by unfold z9A;rw[z2w,z2w,zhW]
theorem z9E(a b:K)(i:Int):z5r (kN a) (kN b) i=kN (a*Z8 i+b*Y0 i):=by unfold z5r;rw[z2w,z2w,zhP]
theorem zs2{a b c s:K}(h:c*c+s*s=K.ofInt 1)(h1:a*s-b*c=0)(h2:a*c+b*s=0):a=0∧b=0:=by
 have e1:(a*c+b*s)*c+(a*s-b*c)*s=a*(c*c+s*s):=(show ∀ρ:Nat→K,(ρ 0*ρ 2+ρ 1*ρ 3)*ρ 2+(ρ 0*ρ 3-ρ 1*ρ 2)*ρ 3=ρ 0*(ρ 2*ρ 2+ρ 3*ρ 3)from fun ρ=>CR.ring ρ rfl) (CR.vr [a,b,c,s])
 have e2:(a*c+b*s)*s+ -((a*s-b*c)*c)=b*(c*c+s*s):=(show ∀ρ:Nat→K,(ρ 0*ρ 2+ρ 1*ρ 3)*ρ 3+ -((ρ 0*ρ 3-ρ 1*ρ 2)*ρ 2)=ρ 1*(ρ 2*ρ 2+ρ 3*ρ 3)from fun ρ=>CR.ring ρ rfl) (CR.vr [a,b,c,s])
 have m1: ∀x:K,x*K.ofInt 1=x:=fun x=>(show ∀ρ:Nat→K,ρ 0*1=ρ 0 from fun ρ=>CR.ring ρ rfl) (CR.vr [x])
 rw[h,m1,h1,h2]at e1 e2
 have z1:(0:K)*c+0*s=0:=(show ∀ρ:Nat→K,0*ρ 0+0*ρ 1=0 from fun ρ=>CR.ring ρ rfl) (CR.vr [c,s])
 have z2:(0:K)*s+ -(0*c)=0:=(show ∀ρ:Nat→K,0*ρ 0+ -(0*ρ 1)=0 from fun ρ=>CR.ring ρ rfl) (CR.vr [s,c])
 exact⟨by rw[←e1,z1],by rw[←e2,z2]⟩
theorem zi0{a b:K}(h: ¬(a=0∧b=0))(i:Int)(h1:z0a (z9A (kN a) (kN b) i)=0):z0a (z5r (kN a) (kN b) i)≠0:=by
 intro h2
 rw[zrU,z5e]at h1
 rw[z9E,z5e]at h2
 exact h (zs2 (z9n i) (K.sgn_zero.1 h1) (K.sgn_zero.1 h2))
theorem zdC{x y:K}(h:y≠0):(J8 (kN x) (kN y)).1.ok=true:=by
 rw[zaQ x y (fun e=>h (K.sgn_zero.1 e))]
 exact zb6 _
theorem zaS{a b c d:K}(h: ¬(a=0∧b=0)): ∀(n i:Nat),z2C (kP a b c d) n i=zbv (kP a b c d) (z0J (kN a) (kN b) n i)
 |0,_=>rfl
 |n+1,i=>by
  have ih:=zaS (c:=c) (d:=d) h n (i+1)
  unfold z2C z0J
  show(if z0a (z9A (kN a) (kN b) i)=0 then(if z0a (z5r (kN a) (kN b) i)<0 then z2C (kP a b c d) n (i+1)else zeM (kP a b c d) i (z5r (kN a) (kN b) i) (z02 (J8 (kN c) (z5r (kN a) (kN b) i)).1))else z2C (kP a b c d) n (i+1))=_
  by_cases h1:z0a (z9A (kN a) (kN b) i)=0
  · have nz:=zi0 h i h1
    rw[if_pos h1,if_pos h1]
    by_cases h2:z0a (z5r (kN a) (kN b) i)<0
    · rw[if_pos h2,if_neg (by omega),ih]
    · rw[if_neg h2,if_pos (by omega)]
      unfold zbv
      rw[if_pos rfl]
      refine(z9k _ _ _ _ ?_).symm
      rw[z9E,z5e]at nz
      rw[z9E]
      exact zdC (fun e=>nz (K.sgn_zero.2 e))
  · rw[if_neg h1,if_neg h1,ih]
end Go.Fw
open Go
namespace Go.Fw
set_option maxRecDepth 100000
theorem rn0{x:RN}(h:x.ok=true):rnB x (oN 0)=decide (z0a x=0):=by
 obtain⟨a,rfl⟩:=z5o h
 rw[z5e,z2M]
 cases e:rnB (kN a) (kN (K.ofInt 0))
 · refine(decide_eq_false fun h=>?_).symm
   rw[(zfK a (K.ofInt 0)).2 (K.sgn_zero.1 h)]at e
   cases e
 · exact(decide_eq_true (K.sgn_zero.2 ((zfK a _).1 e))).symm
theorem zcW{x y:RN}{k:Nat}(h1:1≤k)(hx:x.raw k=true)(hy:y.raw k=true): ∀(n i:Nat),(z0J x y n i).2.1.raw (4*k+3)=true
 |0,_=>z1h (o:=none) (Nat.zero_le _)
 |n+1,i=>by
  have ih:=zcW h1 hx hy n (i+1)
  have ha:=z9L i h1 hx hy
  unfold z0J
  by_cases c1:z0a (z9A x y i)=0
  · rw[if_pos c1]
    by_cases c2:z0a (z5r x y i)>0
    · rw[if_pos c2];exact ha
    · rw[if_neg c2];exact ih
  · rw[if_neg c1];exact ih
theorem zgE{x y:RN}(hx:x.raw 1000=true)(hy:y.raw 1000=true):(z0m x y).2.1.raw 4003=true:=by
 rw[z7M]
 exact RN.raw_mono (zcW (by decide) hx hy 24 0) (by decide)
theorem zqg{a b:K}(n:Nat): ∀i:Nat,(z0J (kN a) (kN b) n i).2.2=true→ ∃j:K,(z0J (kN a) (kN b) n i).2.1=kN j∧j≠0:=by
 induction n with
 |zero=>
  intro i h
  cases h
 |succ n ih=>
  intro i h
  have ih:=ih (i+1)
  unfold z0J at h ⊢
  by_cases h1:z0a (z9A (kN a) (kN b) i)=0
  · rw[if_pos h1]at h ⊢
    by_cases h2:z0a (z5r (kN a) (kN b) i)>0
    · rw[if_pos h2]
      rw[z9E,z5e]at h2
      refine⟨_,z9E a b i,fun e=>?_⟩
      rw[e,K.sgn_zero.2 rfl]at h2
      exact absurd h2 (by decide)
    · rw[if_neg h2]at h ⊢
      exact ih h
  · rw[if_neg h1]at h ⊢
    exact ih h
theorem zkj{a b:K}(h:(z0m (kN a) (kN b)).2.2=true): ∃j:K,(z0m (kN a) (kN b)).2.1=kN j∧j≠0:=by
 rw[z7M]at h ⊢
 exact zqg 24 0 h
theorem ztg{q:RN}(hq:q.ok=true)(h:(smV q).2.2=true):0<(smV q).2.1∧(smV q).2.1≤1000∧ -1000≤(smV q).1∧(smV q).1≤1000:=by
 obtain⟨k,rfl⟩:=z5o hq
 have e1:smV (kN k)=smK k:=by unfold smV;rw[z0o]
 rw[e1]at h ⊢
 obtain⟨_,h4,h5,h6,h7⟩:=zhs h
 rw[h4]
 have:=k.pos
 exact⟨this,h7,h5,h6⟩
theorem zhm(p:PN)(i:Int)(al:RN){s:Int×Int×Bool}(h:s.2.2=true):zeM p i al (zbk s)=((s.2.1,s.1,i),(J8 (J9 p.d (oN s.2.1)) al).1,0):=if_pos h
theorem zi5(p:PN)(i:Int)(al:RN){s:Int×Int×Bool}(h:s.2.2=false):zeM p i al (zbk s)=zbV 7:=if_neg (show ¬s.2.2=true by rw[h];decide)
theorem z9e{b:Bool}(h:b=true):(!b)=false:=by rw[h];rfl
theorem zd4{b:Bool}(h:b=false):(!b)=true:=by rw[h];rfl
theorem zoZ(p:PN)(hp:p.raw 1000=true):PCall P 77 [p.c] (zrH (z3g p)):=by
 obtain⟨hn,hd⟩:=PN.raw_iff.1 hp
 obtain⟨hx,hy,hz⟩:=z0q.1 hn
 have up: ∀{x:RN} {n:Nat},x.raw n=true→n≤1000000→x.raw 1000000=true:=fun h k=>RN.raw_mono h k
 have P6:p.raw 1000000=true:=PN.raw_mono hp (by decide)
 have Z:=up hz (by decide)
 have D:=up hd (by decide)
 unfold z3g
 cases g:p.ok
 · exact zp4 p g P6
 rw[if_pos rfl]
 obtain⟨a,b,c,d,rfl⟩:=zmD g
 have ax:(kP a b c d).n.x.ok=true:=zb6 a
 have ay:(kP a b c d).n.y.ok=true:=zb6 b
 have r:=zgE hx hy
 have rz:=RN.raw_mono hz (show 1000≤4003 by decide)
 have rq:(J8 (kP a b c d).n.z (z0m (kP a b c d).n.x (kP a b c d).n.y).2.1).1.raw 1000000=true:=up (z99 rz r) (by decide)
 have r6:(z0m (kP a b c d).n.x (kP a b c d).n.y).2.1.raw 1000000=true:=up r (by decide)
 have key: ∀e:(z0m (kP a b c d).n.x (kP a b c d).n.y).2.2=true,(J8 (kP a b c d).n.z (z0m (kP a b c d).n.x (kP a b c d).n.y).2.1).1.ok=true:=fun e=>by
  obtain⟨j,h1,h2⟩:=zkj (a:=a) (b:=b) e
  rw[show(kP a b c d).n.x=kN a from rfl,show(kP a b c d).n.y=kN b from rfl,h1]
  exact zdC h2
 generalize hq:(J8 (kP a b c d).n.z (z0m (kP a b c d).n.x (kP a b c d).n.y).2.1).1=q at*
 have sides: ∀(e:(z0m (kP a b c d).n.x (kP a b c d).n.y).2.2=true) (e2:(smV q).2.2=true),(-9223372036854775808≤(smV q).2.1∧(smV q).2.1≤9223372036854775807)∧(oN (smV q).2.1).raw 1000000=true∧(J9 (kP a b c d).d (oN (smV q).2.1)).raw 1000000=true:=fun e e2=>by
  obtain⟨b1,b2,_,_⟩:=ztg (key e) e2
  have h:=z0T (n:=1000) (Nat.le_trans (z7G (n:=(smV q).2.1) (by omega) b2) (by decide))
  exact⟨by omega,up h (by decide),up (z0k hd h) (by decide)⟩
 by_cases h1:z0a (kP a b c d).n.x=0
 · have e1:rnB (kP a b c d).n.x (oN 0)=true:=by rw[rn0 ax];exact decide_eq_true h1
   by_cases h2:z0a (kP a b c d).n.y=0
   · have e2:rnB (kP a b c d).n.y (oN 0)=true:=by rw[rn0 ay];exact decide_eq_true h2
     rw[if_pos ⟨h1,h2⟩]
     exact zoA (kP a b c d) g e1 e2 P6 Z (by decide) (by decide) Z D (z7n Z)
   · have e2:rnB (kP a b c d).n.y (oN 0)=false:=by rw[rn0 ay];exact decide_eq_false h2
     rw[if_neg (fun h=>h2 h.2)]
     unfold zbv
     cases e3:(z0m (kP a b c d).n.x (kP a b c d).n.y).2.2
     · exact zqG (kP a b c d) g e1 e2 (zd4 e3) P6 Z (by decide) (by decide) hx hy
     · rw[if_pos rfl,hq]
       cases e4:(smV q).2.2
       · rw[zi5 _ _ _ e4]
         subst hq
         exact zpY (kP a b c d) g e1 e2 (z9e e3) (zd4 e4) P6 Z (by decide) (by decide) hx hy Z r6 (key e3) rq
       · obtain⟨s1,s2,s3⟩:=sides e3 e4
         rw[zhm _ _ _ e4]
         subst hq
         exact zn7 (kP a b c d) g e1 e2 (z9e e3) (z9e e4) P6 Z (by decide) (by decide) hx hy Z r6 (key e3) rq s1 D s2 s3 r6
 · have e1:rnB (kP a b c d).n.x (oN 0)=false:=by rw[rn0 ax];exact decide_eq_false h1
   rw[if_neg (fun h=>h1 h.1)]
   unfold zbv
   cases e3:(z0m (kP a b c d).n.x (kP a b c d).n.y).2.2
   · exact zo4 (kP a b c d) g e1 (zd4 e3) P6 Z (by decide) hx hy
   · rw[if_pos rfl,hq]
     cases e4:(smV q).2.2
     · rw[zi5 _ _ _ e4]
       subst hq
       exact zmw (kP a b c d) g e1 (z9e e3) (zd4 e4) P6 Z (by decide) hx hy Z r6 (key e3) rq
     · obtain⟨s1,s2,s3⟩:=sides e3 e4
       rw[zhm _ _ _ e4]
       subst hq
       exact zpL (kP a b c d) g e1 (z9e e3) (z9e e4) P6 Z (by decide) hx hy Z r6 (key e3) rq s1 D s2 s3 r6
end Go.Fw
open Go
namespace Go.Fw
set_option maxRecDepth 100000
theorem zsk{q:RN}(hq:q.ok=true)(h:(z02 q).2.2=true): -1000≤(z02 q).1∧(z02 q).1≤1000:=by
 obtain⟨k,rfl⟩:=z5o hq
 have e2:z02 (kN k)=if z6A k then((z4e k.d).1,(z4e k.c0).1,(z4e k.d).2&&(z4e k.c0).2)else(0,0,false):=by
  unfold z02 zf2 z5k z6w
  rw[z0o]
 rw[e2]at h ⊢
 cases hr:z6A k
 · rw[hr]at h;cases h
 · rw[hr,if_pos rfl]at h
   rw[if_pos rfl]
   have h':((z4e k.d).2&&(z4e k.c0).2)=true:=h
   unfold z4e at h'
   simp only[Bool.and_eq_true,decide_eq_true_eq]at h'
   unfold z4e
   simp only
   omega
theorem zlw(p:PN)(i:Int)(al:RN){s:Int×Int×Bool}(h:s.2.2=true):zeM p i al s=((s.1,s.2.1,i),(J8 (J9 p.d (oN s.1)) al).1,0):=if_pos h
theorem zj8(p:PN)(i:Int)(al:RN){s:Int×Int×Bool}(h:s.2.2=false):zeM p i al s=zbV 7:=if_neg (by rw[h];decide)
theorem zeg {R : Goal} (hn : J0 R.n [0, 1, 2] = true) {a b c d : K} (hp : (kP a b c d).raw 1000 = true) (nz : ¬ (a = 0 ∧ b = 0)) (n : Nat) : ∀ i : Nat, i + n = 24 → R.c (zrH (z2C (kP a b c d) n i)) →
    Ok P 78 (loopHead P 78 0) ⟨J3 120 [(1,.ptr 0 0),(2,.ptr 1 0),(3,.ptr 2 0),(8,.cv (j4 i))],[some (plM (kP a b c d)),some (own [j4 0,j4 0,j4 0]),some (own RN.zero.l)]⟩ R:=by
 induction n with
 |zero=>
  intro i hi hR
  exact zpn (kP a b c d) i (decide_eq_false (by omega)) hR
 |succ n ih=>
  intro i hi hR
  have ih:=ih (i+1) (by omega)
  obtain⟨hnn,hd⟩:=PN.raw_iff.1 hp
  obtain⟨hx,hy,hz⟩:=z0q.1 hnn
  have up: ∀{x:RN} {n:Nat},x.raw n=true→n≤1000000→x.raw 1000000=true:=fun h k=>RN.raw_mono h k
  have X:=up hx (by decide)
  have Y:=up hy (by decide)
  have D:=up hd (by decide)
  have C:=z4N i (n:=1000) (by decide)
  have S:=z4F i (n:=1000) (by decide)
  have C6:=up C (by decide)
  have S6:=up S (by decide)
  have a1:=up (z0k hx S) (by decide)
  have a2:=up (z0k hy C) (by decide)
  have a3:=up (z0k hx C) (by decide)
  have a4:=up (z0k hy S) (by decide)
  have ra:=z9L i (by decide) hx hy
  have a5:(z9A (kP a b c d).n.x (kP a b c d).n.y i).raw 1000000=true:=up (zc4 i (by decide) hx hy) (by decide)
  have a6:(z5r (kP a b c d).n.x (kP a b c d).n.y i).raw 1000000=true:=up ra (by decide)
  have a7:(z5r (kP a b c d).n.x (kP a b c d).n.y i).raw 100000=true:=RN.raw_mono ra (by decide)
  have a8:(kP a b c d).n.z.raw 100000=true:=RN.raw_mono hz (by decide)
  have w:IntKind.i64.wrap ((i:Int)+1)=((i+1:Nat):Int):=by rw[w64 (by omega)];omega
  unfold z2C at hR
  by_cases h2:z0a (z9A (kP a b c d).n.x (kP a b c d).n.y i)=0
  · rw[if_pos h2]at hR
    have nz2:=zi0 nz i h2
    by_cases h3:z0a (z5r (kP a b c d).n.x (kP a b c d).n.y i)<0
    · rw[if_pos h3]at hR
      refine zpw (kP a b c d) i (decide_eq_true (by omega)) (zpj h2) (decide_eq_true h3) X S6 Y C6 a1 a2 X C6 Y S6 a3 a4 a5 a6 hn ?_
      rw[w]
      exact ih hR
    · rw[if_neg h3]at hR
      have ok:(J8 (kP a b c d).n.z (z5r (kP a b c d).n.x (kP a b c d).n.y i)).1.ok=true:=by
       show(J8 (kN c) (z5r (kN a) (kN b) i)).1.ok=true
       rw[z9E,z5e]at nz2
       rw[z9E]
       exact zdC fun e=>nz2 (K.sgn_zero.2 e)
      cases h4:(z02 (J8 (kP a b c d).n.z (z5r (kP a b c d).n.x (kP a b c d).n.y i)).1).2.2
      · rw[zj8 _ _ _ h4]at hR
        exact zoz (kP a b c d) i (decide_eq_true (by omega)) (zpj h2) (decide_eq_false h3) (zd4 h4) X S6 Y C6 a1 a2 X C6 Y S6 a3 a4 a5 a6 ok a7 a8 hR
      · rw[zlw _ _ _ h4]at hR
        obtain⟨b1,b2⟩:=zsk ok h4
        have h:=z0T (n:=1000) (Nat.le_trans (z7G b1 b2) (by decide))
        have hb: -9223372036854775808≤(z02 (J8 (kP a b c d).n.z (z5r (kP a b c d).n.x (kP a b c d).n.y i)).1).1∧(z02 (J8 (kP a b c d).n.z (z5r (kP a b c d).n.x (kP a b c d).n.y i)).1).1≤9223372036854775807:=by omega
        exact zoO (kP a b c d) i (decide_eq_true (by omega)) (zpj h2) (decide_eq_false h3) (z9e h4) X S6 Y C6 a1 a2 X C6 Y S6 a3 a4 a5 a6 ok a7 a8 hb D (up h (by decide)) (up (z0k hd h) (by decide)) a6 hR
  · rw[if_neg h2]at hR
    refine zmO (kP a b c d) i (decide_eq_true (by omega)) (zsh h2) X S6 Y C6 a1 a2 X C6 Y S6 a3 a4 a5 hn ?_
    rw[w]
    exact ih hR
theorem zqb(p:PN)(hp:p.raw 1000=true):PCall P 78 [p.c] (zrH (z3g p)):=by
 obtain⟨hn,hd⟩:=PN.raw_iff.1 hp
 obtain⟨hx,hy,hz⟩:=z0q.1 hn
 have up: ∀{x:RN} {n:Nat},x.raw n=true→n≤1000000→x.raw 1000000=true:=fun h k=>RN.raw_mono h k
 have P6:p.raw 1000000=true:=PN.raw_mono hp (by decide)
 have X:=up hx (by decide)
 have Y:=up hy (by decide)
 have Z:=up hz (by decide)
 have D:=up hd (by decide)
 unfold z3g
 cases g:p.ok
 · exact zp3 p g P6
 rw[if_pos rfl]
 obtain⟨a,b,c,d,rfl⟩:=zmD g
 have e0: ∀{x:K},z0a (kN x)=0↔x=0:=fun {x}=>by rw[z5e];exact K.sgn_zero
 have fin : ∀ nz : ¬ (a = 0 ∧ b = 0), Ok P 78 (loopHead P 78 0) ⟨J3 120 [(1, .ptr 0 0), (2, .ptr 1 0), (3, .ptr 2 0), (8, .cv (j4 (0 : Nat)))], [some (plM (kP a b c d)), some (own [j4 0, j4 0, j4 0]), some (own RN.zero.l)]⟩ (.of (· = zrH (zbv (kP a b c d) (z0m (kN a) (kN b))))) := fun nz => by
  refine zeg rfl hp nz 24 0 rfl ?_
  rw[zaS nz,z7M]
  rfl
 by_cases h1:z0a (kP a b c d).n.x=0
 · by_cases h2:z0a (kP a b c d).n.y=0
   · rw[if_pos ⟨h1,h2⟩]
     exact zpy (kP a b c d) g (beq_iff_eq.2 h1) (beq_iff_eq.2 h2) P6 X Y Z D (z7n Z) Z
   · rw[if_neg (fun h=>h2 h.2)]
     exact V8 (zqq (kP a b c d) g (beq_iff_eq.2 h1) (zsy h2) P6 X Y (fin fun h=>h2 (e0.2 h.2)))
 · rw[if_neg (fun h=>h1 h.1)]
   exact V8 (zpp (kP a b c d) g (zsy h1) P6 X (fin fun h=>h1 (e0.2 h.1)))
theorem zmA(h v i:Int)(d:RN)(hd:d.raw 1000000=true):PCall P 76 [.agg [j4 h,j4 v,j4 i],d.c] (.tup [(ofP h v i d).1.c,j4 (ofP h v i d).2]):=by
 unfold ofP
 cases h1:d.ok
 · exact zok h v i d h1 hd
 cases h2:z3j h v i
 · exact zqh h v i d h1 h2 hd
 · exact zpz h v i d h1 h2 hd
theorem zqi(p:PN)(hp:p.raw 1000=true):PCall P 77 [p.c] (.tup [.agg [j4 (z3g p).1.1,j4 (z3g p).1.2.1,j4 (z3g p).1.2.2],(z3g p).2.1.c,j4 (z3g p).2.2]):=zoZ p hp
theorem znx(p:PN)(hp:p.raw 1000=true):PCall P 78 [p.c] (.tup [.agg [j4 (z3g p).1.1,j4 (z3g p).1.2.1,j4 (z3g p).1.2.2],(z3g p).2.1.c,j4 (z3g p).2.2]):=zqb p hp
end Go.Fw
open Go IntKind
namespace Go.Fw
set_option maxRecDepth 100000
theorem zqU(h v i:Int)(d:RN)(p:PN)(g:PN.raw 10 p=false)(o2:(plM p)=(plM p)):PCall P 15 [.agg [j4 h,j4 v,j4 i],d.c,p.c] (.lit (.bool true)):=
 j3 (.c (zem) (.c ((zd5 (p)).eqB g) (.c o2 (.o 4 (.r (.lit (.bool true))) (.o 9 (.k (.lit (.bool false)) [(plL p)]) .nil))))) (by kernel_rfl)
theorem znV(h v i:Int)(d:RN)(p:PN)(g:PN.raw 10 p=true)(g2:RN.raw 10 d=false)(o2:(plM p)=(plM p)):PCall P 15 [.agg [j4 h,j4 v,j4 i],d.c,p.c] (.lit (.bool true)):=
 j3 (.c (zem) (.c ((zd5 (p)).eqB g) (.c o2 (.c ((z28 (d)).eqB g2) (.o 4 (.r (.lit (.bool true))) (.o 9 (.k (.lit (.bool true)) [(plL p)]) (.o 13 (.r (.lit (.bool false))) .nil))))))) (by kernel_rfl)
end Go.Fw
open Go
namespace Go.Fw
set_option maxRecDepth 100000
def zty(a b c:K):K:=if K.sgn a≠0 then a else if K.sgn b≠0 then b else c
end Go.Fw
open Go
namespace Go.Fw
set_option maxRecDepth 100000
theorem z9I{x k:K}(hk:K.sgn k=1):K.sgn (x*k)=K.sgn x:=by rw[K.sgn_mul,hk,Int.mul_one]
theorem z8N{x k:K}(h:x≠0)(hk:K.sgn k=1):x*k≠0:=fun e=>h (K.sgn_zero.1 (by rw[←z9I hk,e];exact K.sgn_zero.2 rfl))
end Go.Fw
open Go
namespace Go.Fw
set_option maxRecDepth 100000
def z4m(b:Bool):Bool:=b
end Go.Fw
open Go
namespace Go.Fw
set_option maxRecDepth 100000
theorem zsu(p:PN)(hp:p.raw 1000000=true):PCall P 79 [p.c] (.lit (.bool (z4m p.ok))):=z2X p hp
theorem zrm(p:PN)(hp:p.raw 1000000=true):PCall P 80 [p.c] (.lit (.bool (z4m p.ok))):=z5Q p hp
theorem zsj(h v i:Int):PCall P 81 [.agg [j4 h,j4 v,j4 i]] (.lit (.bool (z4m (z3j h v i)))):=zce h v i
theorem zoR(h v i:Int):PCall P 82 [.agg [j4 h,j4 v,j4 i]] (.lit (.bool (z4m (z3j h v i)))):=z95 h v i
end Go.Fw
open Go IntKind
namespace Go.Fw
set_option maxRecDepth 100000
theorem zp1(h v i:Int)(d:RN)(p:PN)(g:PN.raw 10 p=true)(g2:RN.raw 10 d=true)(q0:(rnB (ofP h v i d).fst.n.x (ofP h v i d).fst.n.x&&(rnB (ofP h v i d).fst.n.y (ofP h v i d).fst.n.y&&(rnB (ofP h v i d).fst.n.z (ofP h v i d).fst.n.z&&true))&&(rnB (ofP h v i d).fst.d (ofP h v i d).fst.d&&true))=true)(e0:((ofP h v i d).snd==(ofP h v i d).snd)=true)(c0:((z3g p).fst.fst==(z3g p).fst.fst&&((z3g p).fst.snd.fst==(z3g p).fst.snd.fst&&((z3g p).fst.snd.snd==(z3g p).fst.snd.snd&&true)))=true)(x0:rnB (z3g p).snd.fst (z3g p).snd.fst=true)(f0:((z3g p).snd.snd==(z3g p).snd.snd)=true)(k0:(z4m p.ok==z4m p.ok)=true)(s19_0 s28_0:RN.raw 1000000 d=true)(s36_0 s47_0:PN.raw 1000 p=true)(s82_0 s84_0:PN.raw 1000000 p=true)(o2:(plM p)=(plM p)):PCall P 15 [.agg [j4 h,j4 v,j4 i],d.c,p.c] (.lit (.bool (z4m (z3j h v i)==z4m (z3j h v i)))):=
 j3 (.c (zem) (.c ((zd5 (p)).eqB g) (.c o2 (.c ((z28 (d)).eqB g2) (.c (zrT (h) (v) (i) (d) s19_0) (.c (lq 40 40) (.c (zmA (h) (v) (i) (d) s28_0) (.c (lq 40 40) (.c (zqi (p) s36_0) (.c (lq 3 3) (.c (lq 10 10) (.c (znx (p) s47_0) (.c (lq 3 3) (.c (lq 10 10) (.c q0 (.c e0 (.c c0 (.c x0 (.c f0 (.c (zsu (p) s82_0) (.c (zrm (p) s84_0) (.c k0 (.c (zsj (h) (v) (i)) (.c (zoR (h) (v) (i)) (.o 4 (.r (.lit (.bool true))) (.o 9 (.k (.lit (.bool true)) [(plL p)]) (.o 13 (.r (.lit (.bool true))) (.o 19 (.r (.tup [plR (ofP h v i d).fst.n.x (ofP h v i d).fst.n.y (ofP h v i d).fst.n.z (ofP h v i d).fst.d,.lit (.int .i64 (ofP h v i d).2)])) (.o 28 (.r (.tup [plR (ofP h v i d).fst.n.x (ofP h v i d).fst.n.y (ofP h v i d).fst.n.z (ofP h v i d).fst.d,.lit (.int .i64 (ofP h v i d).2)])) (.o 36 (.r (.tup [.agg [.lit (.int .i64 (z3g p).fst.1),.lit (.int .i64 (z3g p).fst.snd.1),.lit (.int .i64 (z3g p).fst.snd.2)],RN.c (z3g p).snd.fst,.lit (.int .i64 (z3g p).snd.2)])) (.o 47 (.r (.tup [.agg [.lit (.int .i64 (z3g p).fst.1),.lit (.int .i64 (z3g p).fst.snd.1),.lit (.int .i64 (z3g p).fst.snd.2)],RN.c (z3g p).snd.fst,.lit (.int .i64 (z3g p).snd.2)])) (.o 60 (.b true) (.o 65 (.b true) (.o 70 (.b true) (.o 75 (.b true) (.o 80 (.b true) (.o 82 (.r (.lit (.bool (z4m p.ok)))) (.o 84 (.r (.lit (.bool (z4m p.ok)))) (.o 87 (.b true) (.o 89 (.r (.lit (.bool (z4m (z3j h v i))))) (.o 91 (.r (.lit (.bool (z4m (z3j h v i))))) .nil))))))))))))))))))))))))))))))))))))))))) (by kernel_rfl)
end Go.Fw
open Go
namespace Go.Fw
set_option maxRecDepth 100000
theorem z4v(x:RN):rnB x x=true:=z3G.2 rfl
theorem zfe(p:PN):(rnB p.n.x p.n.x&&(rnB p.n.y p.n.y&&(rnB p.n.z p.n.z&&true))&&(rnB p.d p.d&&true))=true:=by
 rw[z4v,z4v,z4v,z4v];rfl
end Go.Fw
open Go
namespace Go.Fw
set_option maxRecDepth 100000
theorem zch(b:Bool):(z4m b==z4m b)=true:=by cases b<;>rfl
theorem z8l(h v i:Int)(d:RN)(p:PN):PCall P 15 [.agg [j4 h,j4 v,j4 i],d.c,p.c] (.lit (.bool true)):=by
 cases g:p.raw 10
 · exact zqU h v i d p g rfl
 cases g2:d.raw 10
 · exact znV h v i d p g g2 rfl
 have P3:p.raw 1000=true:=PN.raw_mono g (by decide)
 have P6:p.raw 1000000=true:=PN.raw_mono g (by decide)
 have D6:d.raw 1000000=true:=RN.raw_mono g2 (by decide)
 exact(zp1 h v i d p g g2 (zfe _) (beq_self_eq_true _) (by rw[beq_self_eq_true,beq_self_eq_true,beq_self_eq_true];rfl) (z4v _) (beq_self_eq_true _) (zch _) D6 D6 P3 P3 P6 P6 rfl).eqB (zch _)
end Go.Fw
open Go Go.Proofs Go.Proofs.YtcafjpldfnegiaaGreatDoor
namespace Go.Fw
set_option maxRecDepth 100000
def RN.v(x:RN):List Value:=[.bool x.b0,.string x.s0,.bool x.b1,.string x.s1,.bool x.b2,.string x.s2,.bool x.b3,.string x.s3,.bool x.b4,.string x.s4]
abbrev zrB:List CT:=[.b,.s,.b,.s,.b,.s,.b,.s,.b,.s]
abbrev zs6:List CT:=[.b,.s,.b,.s,.b,.s,.b,.s,.b,.s,.b,.s,.b,.s,.b,.s,.b,.s,.b,.s,.b,.s,.b,.s,.b,.s,.b,.s,.b,.s]
theorem z40{ts:List CT}{l:List Value}(h:CTs (.b:: .s:: .b:: .s:: .b:: .s:: .b:: .s:: .b:: .s::ts) l): ∃(x:RN) (m:List Value),l=x.v++m∧CTs ts m:=by
 simp only[CTs,CT.ok]at h
 obtain⟨_,_,rfl,⟨b0,rfl⟩,_,_,rfl,⟨s0,rfl⟩,_,_,rfl,⟨b1,rfl⟩,_,_,rfl,⟨s1,rfl⟩,_,_,rfl,⟨b2,rfl⟩,_,_,rfl,⟨s2,rfl⟩,_,_,rfl,⟨b3,rfl⟩,_,_,rfl,⟨s3,rfl⟩,_,_,rfl,⟨b4,rfl⟩,_,m,rfl,⟨s4,rfl⟩,hm⟩:=h
 exact⟨⟨b0,s0,b1,s1,b2,s2,b3,s3,b4,s4⟩,m,rfl,hm⟩
theorem zfv{ts:List CT}{l:List Value}(h:CTs (zs6++ts) l): ∃(x y z:RN) (m:List Value),l=x.v++(y.v++(z.v++m))∧CTs ts m:=by
 obtain⟨x,m1,rfl,h1⟩:=z40 h
 obtain⟨y,m2,rfl,h2⟩:=z40 h1
 obtain⟨z,m3,rfl,h3⟩:=z40 h2
 exact⟨x,y,z,m3,rfl,h3⟩
end Go.Fw
open Go Go.Proofs Go.Proofs.YtcafjpldfnegiaaGreatDoor
namespace Go.Fw
set_option maxRecDepth 100000
theorem zpi:z4p Tryz.prog 8 99=some (zs6++zrB):=by kernel_rfl
theorem zby{l:List Value}(h:CTs (zs6++zrB) l): ∃x y z d:RN,l=x.v++(y.v++(z.v++d.v)):=by
 obtain⟨x,y,z,m,rfl,hm⟩:=zfv h
 obtain⟨d,m',rfl,hm'⟩:=z40 (ts:=[]) hm
 obtain rfl:m'=[]:=hm'
 exact⟨x,y,z,d,by simp⟩
theorem zeF(I:Imm)(x y z d:RN):CV.rep I (plR x y z d) (.agg (x.v++(y.v++(z.v++d.v))).toArray):=z9J I (x.v++(y.v++(z.v++d.v)))
end Go.Fw
open Go
namespace Go.Fw
set_option maxRecDepth 100000
theorem z9g(h v i:Int)(d x y z e:RN):PCall P 15 [.agg [j4 h,j4 v,j4 i],d.c,plR x y z e] (.lit (.bool true)):=
 z8l h v i d ⟨⟨x,y,z⟩,e⟩
end Go.Fw
open Go Go.Proofs Go.Proofs.YtcafjpldfnegiaaGreatDoor
namespace Go.Fw
set_option maxRecDepth 100000
theorem ztq:z4p Tryz.prog 8 39=some zrB:=by kernel_rfl
theorem zcw{l:List Value}(h:CTs zrB l): ∃x:RN,l=x.v:=by
 obtain⟨x,m,rfl,hm⟩:=z40 (ts:=[]) h
 obtain rfl:m=[]:=hm
 exact⟨x,by simp⟩
theorem ziw(I:Imm)(x:RN):CV.rep I x.c (.agg x.v.toArray):=z9J I x.v
end Go.Fw
open Go Go.Proofs Go.Proofs.YtcafjpldfnegiaaGreatDoor
namespace Go.Fw
open Go.ChangeShapes Go.WideShapes Go.ChangeAt Go.RowKit
set_option maxRecDepth 100000
theorem zd0 {H : Type} {enc : TypeId × Value → H} (W : World) (base : Nat) (args : Array Value) (ds gs : List (DataW H)) (before : List MemPlace)
    (hval: ∀(j:Nat) t v,Tryz.f15.params[j]?=some t→args[j]?=some v→Value.okWide Tryz.prog W .any base t v)
    (hW:DataW.Whole enc Tryz.prog Tryz.f15.params.toList Rows.planeOfSpec.vars false W args.toList ds gs before):
    Calls Tryz.prog 15 args W fun e W'=>e= .returned (.bool true)∧Below W.heap.size W W':=by
 obtain⟨p,q,hA,hV,_,_,_⟩:=hW
 rw[Tryz.params15]at hA hval
 obtain⟨v0,vs0,d0,ds0,p0,q0,ha0,hd0,_,h0,r0⟩:=trodAll_cons hA
 obtain⟨v1,vs1,d1,ds1,p1,q1,ha1,hd1,_,h1,r1⟩:=trodAll_cons r0
 obtain⟨v2,vs2,d2,ds2,p2,q2,ha2,hd2,_,h2,r2⟩:=trodAll_cons r1
 obtain⟨hz,hzd,_⟩:=trodAll_nil r2
 subst hz ha2 ha1
 obtain rfl:args= #[v0,v1,v2]:=by cases args;simp_all
 obtain⟨cs0,rfl,hc0⟩:=z6k 8 (show z4p Tryz.prog 8 97=some [.i .i64,.i .i64,.i .i64]from by kernel_rfl) (by kernel_rfl) (hval 0 97 v0 rfl rfl) h0
 simp only[CTs,CT.ok]at hc0
 obtain⟨_,_,rfl,⟨n0,rfl,_⟩,_,_,rfl,⟨m0,rfl,_⟩,_,_,rfl,⟨k0,rfl,_⟩,rfl⟩:=hc0
 obtain⟨cs1,rfl,hc1⟩:=z6k 8 ztq (by kernel_rfl) (hval 1 39 v1 rfl rfl) h1
 obtain⟨x1,rfl⟩:=zcw hc1
 obtain⟨cs2,rfl,hc2⟩:=z6k 8 zpi (by kernel_rfl) (hval 2 99 v2 rfl rfl) h2
 obtain⟨x2,y2,z2,d2,rfl⟩:=zby hc2
 exact zgb (z9g n0 m0 k0 x1 x2 y2 z2 d2) ⟨_,_,rfl,z9J _ _,⟨_,_,rfl,ziw _ _,⟨_,_,rfl,zeF _ _ _ _ _,rfl⟩⟩⟩
end Go.Fw
