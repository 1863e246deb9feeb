/- A part of the proof that the law returns true for every input: an executor for the model's code, and what functions of the program compute. -/
import Derived.Test.YtcafjpldfnegiaaGreatDoorB11
import Derived.Test.YtcafjpldfnegiaaGreatDoorB15
import Derived.Test.YtcafjpldfnegiaaGreatDoorB28
import Derived.Test.YtcafjpldfnegiaaGreatDoorB35
import Derived.Test.YtcafjpldfnegiaaGreatDoorB36
import Derived.Test.YtcafjpldfnegiaaGreatDoorB37
import Derived.Test.YtcafjpldfnegiaaGreatDoorB38
import Derived.KernelRfl
open Go
namespace Go.Fw
set_option maxRecDepth 100000
structure RN where
 b0:Bool
 s0:ByteArray
 b1:Bool
 s1:ByteArray
 b2:Bool
 s2:ByteArray
 b3:Bool
 s3:ByteArray
 b4:Bool
 s4:ByteArray
namespace RN
def l(x:RN):List CV:=[.lit (.bool x.b0),X3 x.s0,.lit (.bool x.b1),X3 x.s1,.lit (.bool x.b2),X3 x.s2,.lit (.bool x.b3),X3 x.s3,.lit (.bool x.b4),X3 x.s4]
def raw(n:Nat)(x:RN):Bool:=decide (x.s0.size≤n)&&decide (x.s1.size≤n)&&decide (x.s2.size≤n)&&decide (x.s3.size≤n)&&decide (x.s4.size≤n)
def ok(x:RN):Bool:=J2 x.b0 x.s0&&J2 x.b1 x.s1&&J2 x.b2 x.s2&&J2 x.b3 x.s3&&J2 x.b4 x.s4&&decide (0<zOf x.b4 x.s4)&&decide (W7 (zOf x.b0 x.s0) (zOf x.b1 x.s1) (zOf x.b2 x.s2) (zOf x.b3 x.s3) (zOf x.b4 x.s4)=1)
theorem l_n5 {x : RN} (h0 : J2 x.b0 x.s0 = true) (h1 : J2 x.b1 x.s1 = true) (h2 : J2 x.b2 x.s2 = true) (h3 : J2 x.b3 x.s3 = true) (h4 : J2 x.b4 x.s4 = true) :
    CV.agg x.l=n5C (zOf x.b0 x.s0) (zOf x.b1 x.s1) (zOf x.b2 x.s2) (zOf x.b3 x.s3) (zOf x.b4 x.s4):=by
 obtain⟨a0,c0,d0⟩:=X5 h0
 obtain⟨a1,c1,d1⟩:=X5 h1
 obtain⟨a2,c2,d2⟩:=X5 h2
 obtain⟨a3,c3,d3⟩:=X5 h3
 obtain⟨a4,c4,d4⟩:=X5 h4
 have e0:=z2x h0
 have e1:=z2x h1
 have e2:=z2x h2
 have e3:=z2x h3
 have e4:=z2x h4
 unfold J6 at e0 e1 e2 e3 e4
 simp only[CV.agg.injEq,List.cons.injEq,and_true]at e0 e1 e2 e3 e4
 unfold l
 rw[e0.1,e0.2,e1.1,e1.2,e2.1,e2.2,e3.1,e3.2,e4.1,e4.2]
 rfl
theorem ok_k{x:RN}(h:x.ok=true): ∃k:K,x.l=zbs k:=by
 unfold ok at h
 simp only[Bool.and_eq_true,decide_eq_true_eq]at h
 obtain⟨⟨⟨⟨⟨⟨h0,h1⟩,h2⟩,h3⟩,h4⟩,h5⟩,h6⟩:=h
 have e:=l_n5 h0 h1 h2 h3 h4
 refine⟨⟨_,_,_,_,_,h5,h6⟩,?_⟩
 injection e
end RN
theorem zg6(a b c d e:Int):W7 a b c d e=Nat.gcd (Nat.gcd (Nat.gcd (Nat.gcd a.natAbs b.natAbs) c.natAbs) d.natAbs) e.natAbs:=by
 unfold W7
 rw[Nat.gcd_comm e.natAbs a.natAbs]
 simp only[Nat.gcd_assoc]
 congr 1
 rw[Nat.gcd_comm e.natAbs]
 simp only[Nat.gcd_assoc]
theorem Sml.str{s:ByteArray}(h:s.size≤1000000):Sml (J7 s):=Sml.of_lt (Nat.lt_of_lt_of_le (z0u s) (Nat.pow_le_pow_right (by decide) h)) (by decide)
theorem z2N(z:Int):decide (z.sign>0)=decide (0<z):=by
 rw[decide_eq_decide];exact Int.sign_pos_iff
theorem Sml.ofStr{s:ByteArray}{n:Nat}(hn:n<1073741824)(h:s.size≤n):Sml (J7 s):=Sml.of_lt (z0u s) (Nat.lt_of_le_of_lt h hn)
theorem zar(x:RN){n:Nat}(hn:n<1073741824)(hs:x.raw n=true):PCall P 124 [.agg x.l] (.lit (.bool x.ok)):=by
 obtain⟨b0,s0,b1,s1,b2,s2,b3,s3,b4,s4⟩:=x
 simp only[RN.raw,Bool.and_eq_true,decide_eq_true_eq]at hs
 obtain⟨⟨⟨⟨z0,z1⟩,z2⟩,z3⟩,z4⟩:=hs
 have y0:=Sml.ofStr hn z0
 have y1:=Sml.ofStr hn z1
 have y2:=Sml.ofStr hn z2
 have y3:=Sml.ofStr hn z3
 have y4:=Sml.ofStr hn z4
 show PCall P 124 [r5 b0 b1 b2 b3 b4 s0 s1 s2 s3 s4] _
 by_cases hw: ∀i,i<5→z69 (fB b0 b1 b2 b3 b4) (fS s0 s1 s2 s3 s4) i
 · have v0:J2 b0 s0=true:=(hw 0 (by decide)).2
   have v1:J2 b1 s1=true:=(hw 1 (by decide)).2
   have v2:J2 b2 s2=true:=(hw 2 (by decide)).2
   have v3:J2 b3 s3=true:=(hw 3 (by decide)).2
   have v4:J2 b4 s4=true:=(hw 4 (by decide)).2
   have bd: ∀{b:Bool} {s:ByteArray},J2 b s=true→s.size≤3→(zOf b s).natAbs<2^63:=fun {b s} hv hs=>by
    rw[(X5 hv).2.2]
    exact Nat.lt_of_lt_of_le (z0u s) (Nat.le_trans (Nat.pow_le_pow_right (by decide) hs) (by decide))
   have hok:RN.ok ⟨b0,s0,b1,s1,b2,s2,b3,s3,b4,s4⟩=(decide (0<zOf b4 s4)&&decide (W7 (zOf b0 s0) (zOf b1 s1) (zOf b2 s2) (zOf b3 s3) (zOf b4 s4)=1)):=by
    simp only[RN.ok,v0,v1,v2,v3,v4,Bool.true_and]
   rw[hok]
   by_cases hp:0<zOf b4 s4
   · have:=zmv b0 b1 b2 b3 b4 s0 s1 s2 s3 s4 (decide_eq_true hp) hw ⟨bd v0 (hw 0 (by decide)).1,bd v1 (hw 1 (by decide)).1,bd v2 (hw 2 (by decide)).1,bd v3 (hw 3 (by decide)).1,bd v4 (hw 4 (by decide)).1⟩
     refine this.eqB ?_
     show(((W7 (zOf b0 s0) (zOf b1 s1) (zOf b2 s2) (zOf b3 s3) (zOf b4 s4):Nat):Int)==1)=_
     rw[decide_eq_true hp,Bool.true_and,Bool.eq_iff_iff,beq_iff_eq,decide_eq_true_eq]
     omega
   · have:=znx b0 b1 b2 b3 b4 s0 s1 s2 s3 s4 (decide_eq_false hp) hw
     refine this.eqB ?_
     rw[decide_eq_false hp,Bool.false_and]
 · cases v0:J2 b0 s0
   · refine(zl9 b0 b1 b2 b3 b4 s0 s1 s2 s3 s4 v0 hw).eqB ?_
     simp[RN.ok,v0]
   cases v1:J2 b1 s1
   · refine(zmi b0 b1 b2 b3 b4 s0 s1 s2 s3 s4 v0 v1 hw y0).eqB ?_
     simp[RN.ok,v1]
   have t0:=(X5 v0).2.2
   have t1:=(X5 v1).2.2
   have g0:Sml ((Nat.gcd 0 (zOf b0 s0).natAbs:Nat):Int).natAbs:=by rw[Int.natAbs_natCast,Nat.gcd_zero_left,t0];exact y0
   cases v2:J2 b2 s2
   · refine(zoB b0 b1 b2 b3 b4 s0 s1 s2 s3 s4 v0 v1 v2 hw y0 g0 y1).eqB ?_
     simp[RN.ok,v2]
   have t2:=(X5 v2).2.2
   have g1:Sml (((((Nat.gcd 0 (zOf b0 s0).natAbs:Nat):Int).natAbs).gcd (zOf b1 s1).natAbs:Nat):Int).natAbs:=by rw[Int.natAbs_natCast];exact g0.gcd (by rw[t1];exact y1)
   cases v3:J2 b3 s3
   · refine(zmH b0 b1 b2 b3 b4 s0 s1 s2 s3 s4 v0 v1 v2 v3 hw y0 g0 y1 g1 y2).eqB ?_
     simp[RN.ok,v3]
   have t3:=(X5 v3).2.2
   have g2:Sml (((((((Nat.gcd 0 (zOf b0 s0).natAbs:Nat):Int).natAbs).gcd (zOf b1 s1).natAbs:Nat):Int).natAbs.gcd (zOf b2 s2).natAbs:Nat):Int).natAbs:=by rw[Int.natAbs_natCast];exact g1.gcd (by rw[t2];exact y2)
   cases v4:J2 b4 s4
   · refine(zlf b0 b1 b2 b3 b4 s0 s1 s2 s3 s4 v0 v1 v2 v3 v4 hw y0 g0 y1 g1 y2 g2 y3).eqB ?_
     simp[RN.ok,v4]
   have g3:Sml (((((((((Nat.gcd 0 (zOf b0 s0).natAbs:Nat):Int).natAbs).gcd (zOf b1 s1).natAbs:Nat):Int).natAbs.gcd (zOf b2 s2).natAbs:Nat):Int).natAbs.gcd (zOf b3 s3).natAbs:Nat):Int).natAbs:=by rw[Int.natAbs_natCast];exact g2.gcd (by rw[t3];exact y3)
   have hok:RN.ok ⟨b0,s0,b1,s1,b2,s2,b3,s3,b4,s4⟩=(decide (0<zOf b4 s4)&&decide (W7 (zOf b0 s0) (zOf b1 s1) (zOf b2 s2) (zOf b3 s3) (zOf b4 s4)=1)):=by
    simp only[RN.ok,v0,v1,v2,v3,v4,Bool.true_and]
   rw[hok]
   by_cases hp:0<zOf b4 s4
   · refine(zoJ b0 b1 b2 b3 b4 s0 s1 s2 s3 s4 v0 v1 v2 v3 v4 (by rw[z2N];exact decide_eq_true hp) hw y0 g0 y1 g1 y2 g2 y3 g3 y4 (by decide)).eqB ?_
     rw[zg6,decide_eq_true hp,Bool.true_and]
     simp only[Int.natAbs_natCast,Nat.gcd_zero_left,z1e,Bool.and_true]
     rw[decide_eq_false (by omega)]
     rfl
   · refine(zmC b0 b1 b2 b3 b4 s0 s1 s2 s3 s4 v0 v1 v2 v3 v4 (by rw[z2N];exact decide_eq_false hp) hw y0 g0 y1 g1 y2 g2 y3).eqB ?_
     rw[decide_eq_false hp,Bool.false_and]
theorem z9G(x:RN)(hs:x.raw 1000000=true):PCall P 124 [.agg x.l] (.lit (.bool x.ok)):=zar x (by decide) hs
theorem z3u{b:Bool}{s:ByteArray}(hv:J2 b s=true)(h:s.size≤1000000):SmlZ (zOf b s):=by
 show Sml (zOf b s).natAbs
 rw[(X5 hv).2.2];exact Sml.str h
theorem z9D(x:RN)(hs:x.raw 1000000=true):PCall P 154 [.agg x.l] (.lit (.bool x.ok)):=by
 cases v0:J2 x.b0 x.s0
 · refine(zom x.b0 x.b1 x.b2 x.b3 x.b4 x.s0 x.s1 x.s2 x.s3 x.s4 v0).eqB ?_
   simp[RN.ok,v0]
 cases v1:J2 x.b1 x.s1
 · refine(znr x.b0 x.b1 x.b2 x.b3 x.b4 x.s0 x.s1 x.s2 x.s3 x.s4 v0 v1).eqB ?_
   simp[RN.ok,v1]
 cases v2:J2 x.b2 x.s2
 · refine(znJ x.b0 x.b1 x.b2 x.b3 x.b4 x.s0 x.s1 x.s2 x.s3 x.s4 v0 v1 v2).eqB ?_
   simp[RN.ok,v2]
 cases v3:J2 x.b3 x.s3
 · refine(zmm x.b0 x.b1 x.b2 x.b3 x.b4 x.s0 x.s1 x.s2 x.s3 x.s4 v0 v1 v2 v3).eqB ?_
   simp[RN.ok,v3]
 cases v4:J2 x.b4 x.s4
 · refine(znU x.b0 x.b1 x.b2 x.b3 x.b4 x.s0 x.s1 x.s2 x.s3 x.s4 v0 v1 v2 v3 v4).eqB ?_
   simp[RN.ok,v4]
 simp only[RN.raw,Bool.and_eq_true,decide_eq_true_eq]at hs
 obtain⟨⟨⟨⟨z0,z1⟩,z2⟩,z3⟩,z4⟩:=hs
 rw[RN.l_n5 v0 v1 v2 v3 v4]
 have hok:x.ok=(decide (0<zOf x.b4 x.s4)&&decide (W7 (zOf x.b0 x.s0) (zOf x.b1 x.s1) (zOf x.b2 x.s2) (zOf x.b3 x.s3) (zOf x.b4 x.s4)=1)):=by
  simp only[RN.ok,v0,v1,v2,v3,v4,Bool.true_and]
 rw[hok]
 by_cases hp:0<zOf x.b4 x.s4
 · refine(z7I _ _ _ _ _ (by rw[z2N];exact decide_eq_true hp) (z3u v0 z0) (z3u v1 z1) (z3u v2 z2) (z3u v3 z3) (z3u v4 z4) (by decide)).eqB ?_
   rw[decide_eq_true hp,Bool.true_and]
   simp only[Int.natAbs_natCast,z1e,Bool.and_true]
   rw[decide_eq_false (by omega)]
   rfl
 · refine(zct _ _ _ _ _ (by rw[z2N];exact decide_eq_false hp)).eqB ?_
   rw[decide_eq_false hp,Bool.false_and]
end Go.Fw
open Go
namespace Go.Fw
set_option maxRecDepth 100000
def RN.c(x:RN):CV:=r5 x.b0 x.b1 x.b2 x.b3 x.b4 x.s0 x.s1 x.s2 x.s3 x.s4
def z5D(x y z:RN):CV:= .agg (x.l++(y.l++z.l))
theorem z2X(x:RN)(hs:x.raw 1000000=true):PCall P 124 [x.c] (.lit (.bool x.ok)):=z9G x hs
theorem z2o(x:RN)(hs:x.raw 1000000=true):PCall P 154 [x.c] (.lit (.bool x.ok)):=z9D x hs
end Go.Fw
open Go
namespace Go.Fw
set_option maxRecDepth 100000
theorem zgH(a b c d e:Int)(he:e≠0)(ha:SmlZ a)(hb:SmlZ b)(hc:SmlZ c)(hd:SmlZ d)(hl:SmlZ e):PCall P 129 [c4C a b c d,J6 e] (Z9 (K.of a b c d e)):=by
 have gl: ∀x y:Nat,x≠0→Sml x→Nat.gcd x y≠0∧Sml (Nat.gcd x y):=fun x y h0 h=>⟨by have:=Nat.gcd_pos_of_pos_left y (Nat.pos_of_ne_zero h0);omega,h.mono (Nat.gcd_le_left _ (Nat.pos_of_ne_zero h0))⟩
 obtain⟨n1,l1⟩:=gl e.natAbs a.natAbs (by omega) hl
 obtain⟨n2,l2⟩:=gl _ b.natAbs n1 l1
 obtain⟨n3,l3⟩:=gl _ c.natAbs n2 l2
 obtain⟨n4,l4⟩:=gl _ d.natAbs n3 l3
 obtain⟨v0,v1,v2,v3,v4⟩:=K.den_dvd a b c d e
 have hne:=K.den_ne (c0:=a) (c1:=b) (c2:=c) (c3:=d) he
 have hdl:Sml (K.den a b c d e).natAbs:=by rw[K.den_natAbs];exact l4
 exact zda a b c d e he (z2k _ _ hl ha) (z2k _ _ (by rwa[Int.natAbs_natCast]) hb) (z2k _ _ (by rwa[Int.natAbs_natCast]) hc) (z2k _ _ (by rwa[Int.natAbs_natCast]) hd)
  (z1Q _ _ ha hdl hne v0) (z1Q _ _ hb hdl hne v1) (z1Q _ _ hc hdl hne v2) (z1Q _ _ hd hdl hne v3) (z1Q _ _ hl hdl hne v4)
def RN.ofK(x:K):RN:=⟨decide (x.c0<0),bytesOf x.c0.natAbs,decide (x.c1<0),bytesOf x.c1.natAbs,decide (x.c2<0),bytesOf x.c2.natAbs,decide (x.c3<0),bytesOf x.c3.natAbs,decide (x.d<0),bytesOf x.d.natAbs⟩
theorem RN.ofK_l(x:K):(RN.ofK x).l=zbs x:=rfl
theorem RN.ofK_ok(x:K):(RN.ofK x).ok=true:=by
 unfold RN.ok RN.ofK
 simp only[z4f,zdk,Bool.true_and,Bool.and_eq_true,decide_eq_true_eq]
 exact⟨x.pos,x.cop⟩
theorem RN.ofK_raw(x:K){n:Nat}(h:x.sz≤n):(RN.ofK x).raw n=true:=by
 obtain⟨h0,h1,h2,h3,h4⟩:=K.sz_le.1 h
 unfold RN.raw RN.ofK
 simp only[Bool.and_eq_true,decide_eq_true_eq]
 exact⟨⟨⟨⟨X7.2 h0,X7.2 h1⟩,X7.2 h2⟩,X7.2 h3⟩,X7.2 h4⟩
theorem z3A(x:K)(h:x.sz≤1000000):PCall P 124 [Z9 x] (.lit (.bool true)):=by
 have:=z9G (RN.ofK x) (RN.ofK_raw x h)
 rw[RN.ofK_ok]at this
 exact this
open Classical in
noncomputable def wdA(x:K):Nat→Int:=if h:Sm3 x then kZ x else(z5K x h).choose
open Classical in
noncomputable def zbF(x:K):Bool:=decide (Sm3 x)
theorem z8W(x:K):PCall P 125 [Z9 x] (wdV (wdA x) (zbF x)):=by
 rcases Classical.em (Sm3 x)with h|h
 · have e1:wdA x=kZ x:=dif_pos h
   have e2:zbF x=true:=by unfold zbF;exact @decide_eq_true _ (_) h
   rw[e1,e2];exact z7u x h
 · have e1:wdA x=(z5K x h).choose:=dif_neg h
   have e2:zbF x=false:=by unfold zbF;exact @decide_eq_false _ (_) h
   rw[e1,e2];exact(z5K x h).choose_spec
theorem z8F{x:K}(h:zbF x=true):Sm3 x:=by
 unfold zbF at h
 exact @of_decide_eq_true _ (_) h
end Go.Fw
open Go IntKind
namespace Go.Fw
set_option maxRecDepth 100000
theorem zlB(x y:K)(h1:(zbF x)=true)(h2:(zbF y)=false)(s4_0:x.sz≤1000000)(s8_0:y.sz≤1000000)(s45_0:Sml x.c0.natAbs)(s45_1:Sml y.d.natAbs)(s45_2:Sml (x.c0.natAbs*y.d.natAbs))(s52_0:Sml y.c0.natAbs)(s52_1:Sml x.d.natAbs)(s52_2:Sml (y.c0.natAbs*x.d.natAbs))(s53_0:Sml (x.c0*y.d).natAbs)(s53_1:Sml (y.c0*x.d).natAbs)(s53_2:Sml ((x.c0*y.d).natAbs+(y.c0*x.d).natAbs))(s70_0:Sml x.c1.natAbs)(s70_1:Sml y.d.natAbs)(s70_2:Sml (x.c1.natAbs*y.d.natAbs))(s77_0:Sml y.c1.natAbs)(s77_1:Sml x.d.natAbs)(s77_2:Sml (y.c1.natAbs*x.d.natAbs))(s78_0:Sml (x.c1*y.d).natAbs)(s78_1:Sml (y.c1*x.d).natAbs)(s78_2:Sml ((x.c1*y.d).natAbs+(y.c1*x.d).natAbs))(s95_0:Sml x.c2.natAbs)(s95_1:Sml y.d.natAbs)(s95_2:Sml (x.c2.natAbs*y.d.natAbs))(s102_0:Sml y.c2.natAbs)(s102_1:Sml x.d.natAbs)(s102_2:Sml (y.c2.natAbs*x.d.natAbs))(s103_0:Sml (x.c2*y.d).natAbs)(s103_1:Sml (y.c2*x.d).natAbs)(s103_2:Sml ((x.c2*y.d).natAbs+(y.c2*x.d).natAbs))(s120_0:Sml x.c3.natAbs)(s120_1:Sml y.d.natAbs)(s120_2:Sml (x.c3.natAbs*y.d.natAbs))(s127_0:Sml y.c3.natAbs)(s127_1:Sml x.d.natAbs)(s127_2:Sml (y.c3.natAbs*x.d.natAbs))(s128_0:Sml (x.c3*y.d).natAbs)(s128_1:Sml (y.c3*x.d).natAbs)(s128_2:Sml ((x.c3*y.d).natAbs+(y.c3*x.d).natAbs))(s143_0:Sml x.d.natAbs)(s143_1:Sml y.d.natAbs)(s143_2:Sml (x.d.natAbs*y.d.natAbs))(s144_0:x.d*y.d≠0)(s144_1:SmlZ (x.c0*y.d+y.c0*x.d))(s144_2:SmlZ (x.c1*y.d+y.c1*x.d))(s144_3:SmlZ (x.c2*y.d+y.c2*x.d))(s144_4:SmlZ (x.c3*y.d+y.c3*x.d))(s144_5:SmlZ (x.d*y.d)):PCall P 37 [Z9 x,Z9 y] (Z9 (K.of (x.c0*y.d+y.c0*x.d) (x.c1*y.d+y.c1*x.d) (x.c2*y.d+y.c2*x.d) (x.c3*y.d+y.c3*x.d) (x.d*y.d))):=
 j5 (.r 4 (z3A (x) s4_0) (.r 8 (z3A (y) s8_0) (.r 13 (z8W (x)) (.c (lq 5 5) (.b 21 h1 (.r 23 (z8W (y)) (.c (lq 5 5) (.b 31 h2 (.c (bq 0 4) (.r 45 (Y3 (x.c0) (y.d) s45_0 s45_1 s45_2) (.c (bq 0 4) (.r 52 (Y3 (y.c0) (x.d) s52_0 s52_1 s52_2) (.r 53 (z0m (x.c0*y.d) (y.c0*x.d) s53_0 s53_1 s53_2) (.c (bq 0 4) (.c (lq 2 8) (.c (bq 1 4) (.r 70 (Y3 (x.c1) (y.d) s70_0 s70_1 s70_2) (.c (bq 1 4) (.r 77 (Y3 (y.c1) (x.d) s77_0 s77_1 s77_2) (.r 78 (z0m (x.c1*y.d) (y.c1*x.d) s78_0 s78_1 s78_2) (.c (bq 1 4) (.c (lq 4 8) (.c (bq 2 4) (.r 95 (Y3 (x.c2) (y.d) s95_0 s95_1 s95_2) (.c (bq 2 4) (.r 102 (Y3 (y.c2) (x.d) s102_0 s102_1 s102_2) (.r 103 (z0m (x.c2*y.d) (y.c2*x.d) s103_0 s103_1 s103_2) (.c (bq 2 4) (.c (lq 6 8) (.c (bq 3 4) (.r 120 (Y3 (x.c3) (y.d) s120_0 s120_1 s120_2) (.c (bq 3 4) (.r 127 (Y3 (y.c3) (x.d) s127_0 s127_1 s127_2) (.r 128 (z0m (x.c3*y.d) (y.c3*x.d) s128_0 s128_1 s128_2) (.c (bq 3 4) (.c (lq 8 8) (.r 143 (Y3 (x.d) (y.d) s143_0 s143_1 s143_2) (.r 144 (zgH (x.c0*y.d+y.c0*x.d) (x.c1*y.d+y.c1*x.d) (x.c2*y.d+y.c2*x.d) (x.c3*y.d+y.c3*x.d) (x.d*y.d) s144_0 s144_1 s144_2 s144_3 s144_4 s144_5) (.c (lq 10 10) .nil))))))))))))))))))))))))))))))))))))))) (by kernel_rfl)
theorem zl7(x y:K)(h1:(zbF x)=false)(s4_0:x.sz≤1000000)(s8_0:y.sz≤1000000)(s35_0:Sml x.c0.natAbs)(s35_1:Sml y.d.natAbs)(s35_2:Sml (x.c0.natAbs*y.d.natAbs))(s42_0:Sml y.c0.natAbs)(s42_1:Sml x.d.natAbs)(s42_2:Sml (y.c0.natAbs*x.d.natAbs))(s43_0:Sml (x.c0*y.d).natAbs)(s43_1:Sml (y.c0*x.d).natAbs)(s43_2:Sml ((x.c0*y.d).natAbs+(y.c0*x.d).natAbs))(s60_0:Sml x.c1.natAbs)(s60_1:Sml y.d.natAbs)(s60_2:Sml (x.c1.natAbs*y.d.natAbs))(s67_0:Sml y.c1.natAbs)(s67_1:Sml x.d.natAbs)(s67_2:Sml (y.c1.natAbs*x.d.natAbs))(s68_0:Sml (x.c1*y.d).natAbs)(s68_1:Sml (y.c1*x.d).natAbs)(s68_2:Sml ((x.c1*y.d).natAbs+(y.c1*x.d).natAbs))(s85_0:Sml x.c2.natAbs)(s85_1:Sml y.d.natAbs)(s85_2:Sml (x.c2.natAbs*y.d.natAbs))(s92_0:Sml y.c2.natAbs)(s92_1:Sml x.d.natAbs)(s92_2:Sml (y.c2.natAbs*x.d.natAbs))(s93_0:Sml (x.c2*y.d).natAbs)(s93_1:Sml (y.c2*x.d).natAbs)(s93_2:Sml ((x.c2*y.d).natAbs+(y.c2*x.d).natAbs))(s110_0:Sml x.c3.natAbs)(s110_1:Sml y.d.natAbs)(s110_2:Sml (x.c3.natAbs*y.d.natAbs))(s117_0:Sml y.c3.natAbs)(s117_1:Sml x.d.natAbs)(s117_2:Sml (y.c3.natAbs*x.d.natAbs))(s118_0:Sml (x.c3*y.d).natAbs)(s118_1:Sml (y.c3*x.d).natAbs)(s118_2:Sml ((x.c3*y.d).natAbs+(y.c3*x.d).natAbs))(s133_0:Sml x.d.natAbs)(s133_1:Sml y.d.natAbs)(s133_2:Sml (x.d.natAbs*y.d.natAbs))(s134_0:x.d*y.d≠0)(s134_1:SmlZ (x.c0*y.d+y.c0*x.d))(s134_2:SmlZ (x.c1*y.d+y.c1*x.d))(s134_3:SmlZ (x.c2*y.d+y.c2*x.d))(s134_4:SmlZ (x.c3*y.d+y.c3*x.d))(s134_5:SmlZ (x.d*y.d)):PCall P 37 [Z9 x,Z9 y] (Z9 (K.of (x.c0*y.d+y.c0*x.d) (x.c1*y.d+y.c1*x.d) (x.c2*y.d+y.c2*x.d) (x.c3*y.d+y.c3*x.d) (x.d*y.d))):=
 j5 (.r 4 (z3A (x) s4_0) (.r 8 (z3A (y) s8_0) (.r 13 (z8W (x)) (.c (lq 5 5) (.b 21 h1 (.c (bq 0 4) (.r 35 (Y3 (x.c0) (y.d) s35_0 s35_1 s35_2) (.c (bq 0 4) (.r 42 (Y3 (y.c0) (x.d) s42_0 s42_1 s42_2) (.r 43 (z0m (x.c0*y.d) (y.c0*x.d) s43_0 s43_1 s43_2) (.c (bq 0 4) (.c (lq 2 8) (.c (bq 1 4) (.r 60 (Y3 (x.c1) (y.d) s60_0 s60_1 s60_2) (.c (bq 1 4) (.r 67 (Y3 (y.c1) (x.d) s67_0 s67_1 s67_2) (.r 68 (z0m (x.c1*y.d) (y.c1*x.d) s68_0 s68_1 s68_2) (.c (bq 1 4) (.c (lq 4 8) (.c (bq 2 4) (.r 85 (Y3 (x.c2) (y.d) s85_0 s85_1 s85_2) (.c (bq 2 4) (.r 92 (Y3 (y.c2) (x.d) s92_0 s92_1 s92_2) (.r 93 (z0m (x.c2*y.d) (y.c2*x.d) s93_0 s93_1 s93_2) (.c (bq 2 4) (.c (lq 6 8) (.c (bq 3 4) (.r 110 (Y3 (x.c3) (y.d) s110_0 s110_1 s110_2) (.c (bq 3 4) (.r 117 (Y3 (y.c3) (x.d) s117_0 s117_1 s117_2) (.r 118 (z0m (x.c3*y.d) (y.c3*x.d) s118_0 s118_1 s118_2) (.c (bq 3 4) (.c (lq 8 8) (.r 133 (Y3 (x.d) (y.d) s133_0 s133_1 s133_2) (.r 134 (zgH (x.c0*y.d+y.c0*x.d) (x.c1*y.d+y.c1*x.d) (x.c2*y.d+y.c2*x.d) (x.c3*y.d+y.c3*x.d) (x.d*y.d) s134_0 s134_1 s134_2 s134_3 s134_4 s134_5) (.c (lq 10 10) .nil)))))))))))))))))))))))))))))))))))) (by kernel_rfl)
theorem zo6(x:K)(s3_0:x.sz≤1000000):PCall P 41 [Z9 x] (.agg [.lit (.bool (decide (-x.c0<0))),.lit (.string (bytesOf (-x.c0).natAbs)),.lit (.bool (decide (-x.c1<0))),.lit (.string (bytesOf (-x.c1).natAbs)),.lit (.bool (decide (-x.c2<0))),.lit (.string (bytesOf (-x.c2).natAbs)),.lit (.bool (decide (-x.c3<0))),.lit (.string (bytesOf (-x.c3).natAbs)),.lit (.bool (decide (x.d<0))),.lit (.string (bytesOf x.d.natAbs))]):=
 j5 (.r 3 (z3A (x) s3_0) (.c (lq 10 10) (.c (bq 0 4) (.r 19 (z1S (x.c0)) (.c (bq 0 4) (.c (lq 2 10) (.c (bq 1 4) (.r 35 (z1S (x.c1)) (.c (bq 1 4) (.c (lq 4 10) (.c (bq 2 4) (.r 51 (z1S (x.c2)) (.c (bq 2 4) (.c (lq 6 10) (.c (bq 3 4) (.r 67 (z1S (x.c3)) (.c (bq 3 4) (.c (lq 8 10) (.c (lq 10 10) .nil))))))))))))))))))) (by kernel_rfl)
end Go.Fw
open Go
namespace Go.Fw
set_option maxRecDepth 100000
def Mil(a:Int):Prop:= ∃n,n≤1000000∧a.natAbs<256^n
theorem Mil.sml{a:Int}(h:Mil a):Sml a.natAbs:=by
 obtain⟨n,hn,h⟩:=h
 exact Sml.of_lt h (by omega)
theorem mul_lt_pow{a b n m:Nat}(ha:a<256^n)(hb:b<256^m):a*b<256^(n+m):=by
 rw[Nat.pow_add]
 exact Nat.mul_lt_mul'' ha hb
theorem z6v{a b n:Nat}(ha:a<256^n)(hb:b<256^n):a+b<256^(n+1):=by
 rw[Nat.pow_succ];omega
theorem zfH{a n m:Nat}(ha:a<256^n)(h:n≤m):a<256^m:=Nat.lt_of_lt_of_le ha (Nat.pow_le_pow_right (by decide) h)
def By(n:Nat)(a:Int):Prop:=a.natAbs<256^n
theorem By.sml{n:Nat}{a:Int}(h:By n a)(hn:n<1073741824):Sml a.natAbs:=Sml.of_lt h hn
theorem By.mul{n m:Nat}{a b:Int}(ha:By n a)(hb:By m b):By (n+m) (a*b):=by
 unfold By;rw[Int.natAbs_mul];exact mul_lt_pow ha hb
theorem By.mono{n m:Nat}{a:Int}(h:By n a)(hm:n≤m):By m a:=zfH h hm
theorem By.add{n:Nat}{a b:Int}(ha:By n a)(hb:By n b):By (n+1) (a+b):=Nat.lt_of_le_of_lt (Int.natAbs_add_le ..) (z6v ha hb)
theorem By.neg{n:Nat}{a:Int}(h:By n a):By n (-a):=by unfold By;rw[Int.natAbs_neg];exact h
theorem By.sm2{n m:Nat}{a b:Int}(ha:By n a)(hb:By m b)(hn:n+m<1073741824):Sml (a.natAbs*b.natAbs):=Sml.of_lt (mul_lt_pow ha hb) hn
theorem By.sma{n:Nat}{a b:Int}(ha:By n a)(hb:By n b)(hn:n+1<1073741824):Sml (a.natAbs+b.natAbs):=Sml.of_lt (z6v ha hb) hn
theorem By.of_sz{x:K}{n:Nat}(h:x.sz≤n):By n x.c0∧By n x.c1∧By n x.c2∧By n x.c3∧By n x.d:=K.sz_le.1 h
theorem zoe(x y:K)(hx:x.sz≤1000000)(hy:y.sz≤1000000):PCall P 37 [Z9 x,Z9 y] (Z9 (x+y)):=by
 have hxs:=hx
 have hys:=hy
 obtain⟨x0,x1,x2,x3,xd⟩:=By.of_sz hx
 obtain⟨y0,y1,y2,y3,yd⟩:=By.of_sz hy
 have L:(1000000:Nat)<1073741824:=by decide
 have L2:(1000000:Nat)+1000000<1073741824:=by decide
 have L3:(1000000:Nat)+1000000+1<1073741824:=by decide
 have key: ∀{a b:Int},By 1000000 a→By 1000000 b→Sml (a*y.d).natAbs∧Sml (b*x.d).natAbs∧Sml ((a*y.d).natAbs+(b*x.d).natAbs)∧SmlZ (a*y.d+b*x.d):=fun ha hb=>
  ⟨(ha.mul yd).sml L2,(hb.mul xd).sml L2,(ha.mul yd).sma (hb.mul xd) L3,((ha.mul yd).add (hb.mul xd)).sml L3⟩
 obtain⟨a1,a2,a3,a4⟩:=key x0 y0
 obtain⟨b1,b2,b3,b4⟩:=key x1 y1
 obtain⟨c1,c2,c3,c4⟩:=key x2 y2
 obtain⟨d1,d2,d3,d4⟩:=key x3 y3
 have dn:x.d*y.d≠0:=Int.mul_ne_zero x.d_ne y.d_ne
 cases h1:zbF x
 · exact zl7 x y h1 hxs hys (x0.sml L) (yd.sml L) (x0.sm2 yd L2) (y0.sml L) (xd.sml L) (y0.sm2 xd L2) a1 a2 a3 (x1.sml L) (yd.sml L) (x1.sm2 yd L2) (y1.sml L) (xd.sml L) (y1.sm2 xd L2) b1 b2 b3
     (x2.sml L) (yd.sml L) (x2.sm2 yd L2) (y2.sml L) (xd.sml L) (y2.sm2 xd L2) c1 c2 c3 (x3.sml L) (yd.sml L) (x3.sm2 yd L2) (y3.sml L) (xd.sml L) (y3.sm2 xd L2) d1 d2 d3 (xd.sml L) (yd.sml L) (xd.sm2 yd L2) dn a4 b4 c4 d4 ((xd.mul yd).sml L2)
 · cases h2:zbF y
   · exact zlB x y h1 h2 hxs hys (x0.sml L) (yd.sml L) (x0.sm2 yd L2) (y0.sml L) (xd.sml L) (y0.sm2 xd L2) a1 a2 a3 (x1.sml L) (yd.sml L) (x1.sm2 yd L2) (y1.sml L) (xd.sml L) (y1.sm2 xd L2) b1 b2 b3
       (x2.sml L) (yd.sml L) (x2.sm2 yd L2) (y2.sml L) (xd.sml L) (y2.sm2 xd L2) c1 c2 c3 (x3.sml L) (yd.sml L) (x3.sm2 yd L2) (y3.sml L) (xd.sml L) (y3.sm2 xd L2) d1 d2 d3 (xd.sml L) (yd.sml L) (xd.sm2 yd L2) dn a4 b4 c4 d4 ((xd.mul yd).sml L2)
   · exact zm2 x y (z8F h1) (z8F h2)
theorem zoA(x:K)(hx:x.sz≤1000000):PCall P 41 [Z9 x] (Z9 (-x)):=zo6 x hx
end Go.Fw
open Go
namespace Go.Fw
set_option maxRecDepth 100000
def zkR(X Y C:Nat→Int)(i:Nat):St:=⟨J3 66 [(2,.ptr 0 0),(3,.ptr 1 0),(4,.ptr 2 0),(5,.ptr 3 0),(6,.cv (j6 (i:Int)))],[some (cl4 X),some (cl4 Y),some (cl4 (fun _=>0)),some (cl4 C)]⟩
def zen(X Y C:Nat→Int)(i j:Nat):St:=⟨J3 66 [(2,.ptr 0 0),(3,.ptr 1 0),(4,.ptr 2 0),(5,.ptr 3 0),(6,.cv (j6 (i:Int))),(7,.cv (j6 (j:Int)))],[some (cl4 X),some (cl4 Y),some (cl4 (fun _=>0)),some (cl4 C)]⟩
def tS(i j:Nat):Nat:=[31,34,34,37].getD (i&&&j) 0
section
variable(X Y C:Nat→Int)
theorem zpK : ∀ i j, i < 4 → j < 4 →
    (z3Q P 130 (loopHead P 130 1) (zen X Y C i j) [(7,.r (j6 (X i).sign)),(9,.b true),(20,.stop)] false 100000).pick [2,3,4,5,6,7] [0,1,2,3]=
     some (loopHead P 130 1,zen X Y C i (j+1),[(0:Int)≤(i:Int)∧(i:Int)<4,PCall P 183 [J6 (X i)] (j6 (X i).sign),((X i).sign==(0:Int))=true,CvL (cl4 X),CvL (cl4 Y),CvL (cl4 (fun _=>0)),CvL (cl4 C)]):=by
 intro i j hi hj
 have hi':i=0∨i=1∨i=2∨i=3:=by omega
 have hj':j=0∨j=1∨j=2∨j=3:=by omega
 rcases hi' with rfl|rfl|rfl|rfl<;>rcases hj' with rfl|rfl|rfl|rfl<;>(show _=_;kernel_rfl)
theorem zpB : ∀ i j, i < 4 → j < 4 →
    (z3Q P 130 (loopHead P 130 1) (zen X Y C i j) [(7,.r (j6 (X i).sign)),(9,.b false),(13,.r (j6 (Y j).sign)),(16,.b true),(20,.stop)] false 100000).pick [2,3,4,5,6,7] [0,1,2,3]=
     some (loopHead P 130 1,zen X Y C i (j+1),[(0:Int)≤(i:Int)∧(i:Int)<4,PCall P 183 [J6 (X i)] (j6 (X i).sign),((X i).sign==(0:Int))=false,(0:Int)≤(j:Int)∧(j:Int)<4,PCall P 183 [J6 (Y j)] (j6 (Y j).sign),((Y j).sign==(0:Int))=true,CvL (cl4 X),CvL (cl4 Y),CvL (cl4 (fun _=>0)),CvL (cl4 C)]):=by
 intro i j hi hj
 have hi':i=0∨i=1∨i=2∨i=3:=by omega
 have hj':j=0∨j=1∨j=2∨j=3:=by omega
 rcases hi' with rfl|rfl|rfl|rfl<;>rcases hj' with rfl|rfl|rfl|rfl<;>(show _=_;kernel_rfl)
theorem zpt : ∀ i j, i < 4 → j < 4 →
    (z3Q P 130 (loopHead P 130 1) (zen X Y C i j) [(7,.r (j6 (X i).sign)),(9,.b false),(13,.r (j6 (Y j).sign)),(16,.b false),(tS i j,.r (J6 (sq4 i j))),(tS i j+7,.r (J6 (X i*Y j))),(tS i j+8,.r (J6 (sq4 i j*(X i*Y j)))),(tS i j+20,.r (J6 (C (i^^^j)+sq4 i j*(X i*Y j)))),(tS i j+26,.stop)] false 100000).pick [2,3,4,5,6,7] [0,1,2,3]=
     some (loopHead P 130 1,zen X Y (zj1 C (i^^^j) (C (i^^^j)+sq4 i j*(X i*Y j))) i (j+1),[(0:Int)≤(i:Int)∧(i:Int)<4,PCall P 183 [J6 (X i)] (j6 (X i).sign),((X i).sign==(0:Int))=false,(0:Int)≤(j:Int)∧(j:Int)<4,PCall P 183 [J6 (Y j)] (j6 (Y j).sign),((Y j).sign==(0:Int))=false,
      PCall P 131 [j6 (sq4 i j)] (J6 (sq4 i j)),(0:Int)≤(i:Int)∧(i:Int)<4,(0:Int)≤(j:Int)∧(j:Int)<4,PCall P 128 [J6 (X i),J6 (Y j)] (J6 (X i*Y j)),PCall P 128 [J6 (sq4 i j),J6 (X i*Y j)] (J6 (sq4 i j*(X i*Y j))),2≤2,(0:Int)≤((i^^^j:Nat):Int)∧((i^^^j:Nat):Int)<4,
      PCall P 127 [J6 (C (i^^^j)),J6 (sq4 i j*(X i*Y j))] (J6 (C (i^^^j)+sq4 i j*(X i*Y j))),(0:Int)≤((i^^^j:Nat):Int)∧((i^^^j:Nat):Int)<4,(i^^^j)*2+2≤8,
      CvL (cl4 X),CvL (cl4 Y),CvL (cl4 (fun _=>0)),CvL (cl4 (zj1 C (i^^^j) (C (i^^^j)+sq4 i j*(X i*Y j))))]):=by
 intro i j hi hj
 have hi':i=0∨i=1∨i=2∨i=3:=by omega
 have hj':j=0∨j=1∨j=2∨j=3:=by omega
 rcases hi' with rfl|rfl|rfl|rfl<;>rcases hj' with rfl|rfl|rfl|rfl<;>(show _=_;kernel_rfl)
theorem zpL: ∀i,i<4→(z3Q P 130 (loopHead P 130 0) (zkR X Y C i) [(5,.stop)] false 100000).pick [2,3,4,5,6,7] [0,1,2,3]=some (loopHead P 130 1,zen X Y C i 0,[CvL (cl4 X),CvL (cl4 Y),CvL (cl4 (fun _=>0)),CvL (cl4 C)]):=by
 intro i hi
 have hi':i=0∨i=1∨i=2∨i=3:=by omega
 rcases hi' with rfl|rfl|rfl|rfl<;>(show _=_;kernel_rfl)
theorem zpg: ∀i,i<4→(z3Q P 130 (loopHead P 130 1) (zen X Y C i 4) [(7,.stop)] false 100000).pick [2,3,4,5,6] [0,1,2,3]=some (loopHead P 130 0,zkR X Y C (i+1),[CvL (cl4 X),CvL (cl4 Y),CvL (cl4 (fun _=>0)),CvL (cl4 C)]):=by
 intro i hi
 have hi':i=0∨i=1∨i=2∨i=3:=by omega
 rcases hi' with rfl|rfl|rfl|rfl<;>(show _=_;kernel_rfl)
theorem zpe:z3Q P 130 (loopHead P 130 0) (zkR X Y C 4) [] false 100000= .ret (c4C (C 0) (C 1) (C 2) (C 3)) [8≤8]:=by
 show _=_
 kernel_rfl
theorem zpc:(zbE P 130 [c4C (X 0) (X 1) (X 2) (X 3),c4C (Y 0) (Y 1) (Y 2) (Y 3)] [(5,.stop)] false 100000).pick [2,3,4,5,6] [0,1,2,3]=some (loopHead P 130 0,zkR X Y (fun _=>0) 0,[CvL (cl4 X),CvL (cl4 Y),CvL (cl4 (fun _=>0)),CvL (cl4 (fun _=>0))]):=by
 show _=_
 kernel_rfl
end
end Go.Fw
open Go
namespace Go.Fw
set_option maxRecDepth 100000
theorem z1h(z:Int):(z.sign==(0:Int))=decide (z=0):=by
 rw[Bool.eq_iff_iff,beq_iff_eq,decide_eq_true_eq]
 exact Int.sign_eq_zero_iff_zero
section
variable{X Y:Nat→Int}{p q:Nat}(hp:p+q+2<1073741824)(hX: ∀i,(X i).natAbs<256^p)(hY: ∀i,(Y i).natAbs<256^q)
include hp hX hY
theorem z4V {R : Goal} (hn : J0 R.n [0, 1, 2, 3] = true) (i j t : Nat) (hi : i < 4) (hj : j < 4) (ht : t ≤ 20) (C : Nat → Int) (hC : ∀ k, (C k).natAbs ≤ t * 6 * 256 ^ (p + q))
    (hR:Ok P 130 (loopHead P 130 1) (zen X Y (z1V X Y i j C) i (j+1)) R):Ok P 130 (loopHead P 130 1) (zen X Y C i j) R:=by
 have hii:(0:Int)≤(i:Int)∧(i:Int)<4:=by omega
 have hjj:(0:Int)≤(j:Int)∧(j:Int)<4:=by omega
 by_cases ha:X i=0
 · rw[z2G C (by rw[ha,Int.zero_mul])]at hR
   exact okS (zpK X Y C i j hi hj) rfl (.cons hii (.cons (Z3 _) (.cons (by rw[z1h];exact decide_eq_true ha) (.cons (z01 _) (.cons (z01 _) (.cons (z01 _) (.cons (z01 _) .nil))))))) hn hR
 · by_cases hb:Y j=0
   · rw[z2G C (by rw[hb,Int.mul_zero])]at hR
     exact okS (zpB X Y C i j hi hj) rfl (.cons hii (.cons (Z3 _) (.cons (by rw[z1h];exact decide_eq_false ha) (.cons hjj (.cons (Z3 _) (.cons (by rw[z1h];exact decide_eq_true hb) (.cons (z01 _) (.cons (z01 _) (.cons (z01 _) (.cons (z01 _) .nil)))))))))) hn hR
   · have hm:=z3g hX hY i j
     obtain⟨s1,s2⟩:=zcZ i hi j hj
     have hw:256^(p+q+1)=256*256^(p+q):=by rw[Nat.pow_succ,Nat.mul_comm]
     have hf:(sq4 i j*(X i*Y j)).natAbs<6*256^(p+q)+1:=by
      rw[Int.natAbs_mul]
      have:(sq4 i j).natAbs≤6:=by omega
      have:=Nat.mul_le_mul this (Nat.le_of_lt hm)
      omega
     have smX:SmlZ (X i):=Sml.of_lt (hX i) (by omega)
     have smY:SmlZ (Y j):=Sml.of_lt (hY j) (by omega)
     have smM:Sml ((X i).natAbs*(Y j).natAbs):=by rw[←Int.natAbs_mul];exact Sml.of_lt hm (by omega)
     have smS:SmlZ (sq4 i j):=z1O (by omega)
     have smM':SmlZ (X i*Y j):=Sml.of_lt hm (by omega)
     have hCk:=hC (i^^^j)
     have ht6:t*6*256^(p+q)≤120*256^(p+q):=Nat.mul_le_mul_right _ (by omega)
     have hpp:0<256^(p+q):=Nat.pow_pos (by decide)
     have smF:SmlZ (sq4 i j*(X i*Y j)):=Sml.of_lt (k:=p+q+1) (by omega) (by omega)
     have smF2:Sml ((sq4 i j).natAbs*(X i*Y j).natAbs):=by rw[←Int.natAbs_mul];exact smF
     have smC:SmlZ (C (i^^^j)):=Sml.of_lt (k:=p+q+1) (by omega) (by omega)
     have smA:Sml ((C (i^^^j)).natAbs+(sq4 i j*(X i*Y j)).natAbs):=Sml.of_lt (k:=p+q+1) (by omega) (by omega)
     have hx4:i^^^j<4:=Nat.xor_lt_two_pow (n:=2) (by simpa using hi) (by simpa using hj)
     exact okS (zpt X Y C i j hi hj) rfl (.cons hii (.cons (Z3 _) (.cons (by rw[z1h];exact decide_eq_false ha) (.cons hjj (.cons (Z3 _) (.cons (by rw[z1h];exact decide_eq_false hb) (.cons (Y1 _ (by omega)) (.cons hii (.cons hjj
      (.cons (Y3 _ _ smX smY smM) (.cons (Y3 _ _ smS smM' smF2) (.cons (Nat.le_refl _) (.cons (by omega) (.cons (z0m _ _ smC smF smA) (.cons (by omega) (.cons (by omega) (.cons (z01 _) (.cons (z01 _) (.cons (z01 _) (.cons (z01 _) .nil)))))))))))))))))))) hn hR
theorem z3v {R : Goal} (hn : J0 R.n [0, 1, 2, 3] = true) (i t : Nat) (hi : i < 4) (ht : t ≤ 16) (C : Nat → Int) (hC : ∀ k, (C k).natAbs ≤ t * 6 * 256 ^ (p + q))
    (hR:Ok P 130 (loopHead P 130 0) (zkR X Y (z1V X Y i 3 (z1V X Y i 2 (z1V X Y i 1 (z1V X Y i 0 C)))) (i+1)) R):Ok P 130 (loopHead P 130 0) (zkR X Y C i) R:=by
 have b0:=z0K hX hY i 0 t hi (by decide) C hC
 have b1:=z0K hX hY i 1 (t+1) hi (by decide) _ b0
 have b2:=z0K hX hY i 2 (t+2) hi (by decide) _ b1
 have cv: ∀C:Nat→Int,Ps [CvL (cl4 X),CvL (cl4 Y),CvL (cl4 (fun _=>0)),CvL (cl4 C)]:=fun C=> .cons (z01 _) (.cons (z01 _) (.cons (z01 _) (.cons (z01 _) .nil)))
 refine okS (zpL X Y C i hi) rfl (cv _) hn ?_
 refine z4V hp hX hY hn i 0 t hi (by decide) (by omega) C hC ?_
 refine z4V hp hX hY hn i 1 (t+1) hi (by decide) (by omega) _ b0 ?_
 refine z4V hp hX hY hn i 2 (t+2) hi (by decide) (by omega) _ b1 ?_
 refine z4V hp hX hY hn i 3 (t+3) hi (by decide) (by omega) _ b2 ?_
 exact okS (zpg X Y _ i hi) rfl (cv _) hn hR
theorem zfM : PCall P 130 [c4C (X 0) (X 1) (X 2) (X 3), c4C (Y 0) (Y 1) (Y 2) (Y 3)]
    (c4C (X 0*Y 0+2*X 1*Y 1+3*X 2*Y 2+6*X 3*Y 3) (X 0*Y 1+X 1*Y 0+3*X 2*Y 3+3*X 3*Y 2) (X 0*Y 2+X 2*Y 0+2*X 1*Y 3+2*X 3*Y 1) (X 0*Y 3+X 3*Y 0+X 1*Y 2+X 2*Y 1)):=by
 have c0: ∀k:Nat,((fun _=>0:Nat→Int) k).natAbs≤0*6*256^(p+q):=by intro k;simp
 have c1:=z22 hX hY 0 0 (by decide) _ c0
 have c2:=z22 hX hY 1 4 (by decide) _ c1
 have c3:=z22 hX hY 2 8 (by decide) _ c2
 refine X6 (z8d (zpc X Y) rfl (.cons (z01 _) (.cons (z01 _) (.cons (z01 _) (.cons (z01 _) .nil)))) ?_)
 refine z3v hp hX hY rfl 0 0 (by decide) (by decide) _ c0 ?_
 refine z3v hp hX hY rfl 1 4 (by decide) (by decide) _ c1 ?_
 refine z3v hp hX hY rfl 2 8 (by decide) (by decide) _ c2 ?_
 refine z3v hp hX hY rfl 3 12 (by decide) (by decide) _ c3 ?_
 generalize hC:z1V X Y 3 3 _=C at*
 have e0:C 0=X 0*Y 0+2*X 1*Y 1+3*X 2*Y 2+6*X 3*Y 3:=by
  have:C 0=0+1*(X 0*Y 0)+2*(X 1*Y 1)+3*(X 2*Y 2)+6*(X 3*Y 3):=by rw[←hC];rfl
  rw[this];grind
 have e1:C 1=X 0*Y 1+X 1*Y 0+3*X 2*Y 3+3*X 3*Y 2:=by
  have:C 1=0+1*(X 0*Y 1)+1*(X 1*Y 0)+3*(X 2*Y 3)+3*(X 3*Y 2):=by rw[←hC];rfl
  rw[this];grind
 have e2:C 2=X 0*Y 2+X 2*Y 0+2*X 1*Y 3+2*X 3*Y 1:=by
  have:C 2=0+1*(X 0*Y 2)+2*(X 1*Y 3)+1*(X 2*Y 0)+2*(X 3*Y 1):=by rw[←hC];rfl
  rw[this];grind
 have e3:C 3=X 0*Y 3+X 3*Y 0+X 1*Y 2+X 2*Y 1:=by
  have:C 3=0+1*(X 0*Y 3)+1*(X 1*Y 2)+1*(X 2*Y 1)+1*(X 3*Y 0):=by rw[←hC];rfl
  rw[this];grind
 refine okR (zpe X Y C) (.cons (Nat.le_refl _) .nil) ?_
 rw[←e0,←e1,←e2,←e3]
 rfl
end
end Go.Fw
open Go
namespace Go.Fw
set_option maxRecDepth 100000
def f4(a b c d:Int):Nat→Int
 |0=>a
 |1=>b
 |2=>c
 |_=>d
def By4(n:Nat)(a b c d:Int):Prop:=By n a∧By n b∧By n c∧By n d
theorem By4.f{n:Nat}{a b c d:Int}(h:By4 n a b c d)(i:Nat):(f4 a b c d i).natAbs<256^n:=by
 obtain⟨h0,h1,h2,h3⟩:=h
 match i with
 |0=>exact h0
 |1=>exact h1
 |2=>exact h2
 |n+3=>exact h3
theorem zeT (a0 a1 a2 a3 b0 b1 b2 b3 : Int) (hp : ∃ n, n ≤ 500000000 ∧ By4 n a0 a1 a2 a3 ∧ By4 n b0 b1 b2 b3) : PCall P 130 [c4C a0 a1 a2 a3, c4C b0 b1 b2 b3]
    (c4C (a0*b0+2*a1*b1+3*a2*b2+6*a3*b3) (a0*b1+a1*b0+3*a2*b3+3*a3*b2) (a0*b2+a2*b0+2*a1*b3+2*a3*b1) (a0*b3+a3*b0+a1*b2+a2*b1)):=by
 obtain⟨n,hn,ha,hb⟩:=hp
 exact zfM (X:=f4 a0 a1 a2 a3) (Y:=f4 b0 b1 b2 b3) (p:=n) (q:=n) (by omega) ha.f hb.f
end Go.Fw
open Go IntKind
namespace Go.Fw
set_option maxRecDepth 100000
theorem zjG(x y:K)(s5_0:Smk y)(s6_0:x.sz+(-y).sz+2<1073741824):PCall P 135 [Z9 x,Z9 y] (Z9 (x+ -y)):=
 j5 (.r 5 (z9X (y) s5_0) (.r 6 (z6D (x) (-y) s6_0) (.c (lq 10 10) .nil))) (by kernel_rfl)
end Go.Fw
open Go
namespace Go.Fw
theorem zoK(x y:K)(h:x.sz+y.sz+2<1073741824):PCall P 135 [Z9 x,Z9 y] (Z9 (x-y)):=zjG x y (by simp only[Smk];omega) (by rw[K.sz_neg];exact h)
end Go.Fw
open Go
namespace Go.Fw
set_option maxRecDepth 100000
theorem z9O{x:K}(h:zkQ x=true):x.sz≤1:=by
 simp only[zkQ,Bool.and_eq_true,decide_eq_true_eq]at h
 rw[K.sz_le]
 exact⟨h.1.1.1.1,h.1.1.1.2,h.1.1.2,h.1.2,h.2⟩
theorem zgF(i:Int):(z6Q i).sz≤1:=by
 obtain⟨a,ha⟩:=zpR i
 rw[zor ha];exact z9O (zo1 a).1
theorem zh7(i:Int):(zaF i).sz≤1:=by
 obtain⟨a,ha⟩:=zpR i
 rw[zms ha];exact z9O (zo1 a).2
end Go.Fw
open Go
namespace Go.Fw
set_option maxRecDepth 100000
def z0w:List CV:=[.lit (.bool false),X3 ⟨#[]⟩,.lit (.bool false),X3 ⟨#[]⟩,.lit (.bool false),X3 ⟨#[]⟩,.lit (.bool false),X3 ⟨#[]⟩,.lit (.bool false),X3 ⟨#[]⟩]
def z47:CV:= .agg (z0w++(z0w++z0w))
end Go.Fw
open Go
namespace Go.Fw
set_option maxRecDepth 100000
def zp5(n:Nat)(x y z:RN):Bool:=x.raw n&&(y.raw n&&z.raw n)
def ok3(x y z:RN):Bool:=x.ok&&(y.ok&&z.ok)
theorem z07{n:Nat}{x y z:RN}:zp5 n x y z=true↔x.raw n=true∧y.raw n=true∧z.raw n=true:=by simp[zp5]
theorem RN.raw_mono{x:RN}{n m:Nat}(h:x.raw n=true)(hm:n≤m):x.raw m=true:=by
 unfold RN.raw at h ⊢
 simp only[Bool.and_eq_true,decide_eq_true_eq]at h ⊢
 omega
end Go.Fw
open Go
namespace Go.Fw
set_option maxRecDepth 100000
theorem z2L{a b:ByteArray}(h:X3 a=X3 b):a=b:=by injection h with h;injection h
theorem zpX{x:RN}{k:K}{n:Nat}(h:x.l=zbs k)(hr:x.raw n=true):k.sz≤n:=by
 unfold RN.l zbs at h
 simp only[List.cons.injEq,and_true]at h
 obtain⟨_,e0,_,e1,_,e2,_,e3,_,e4⟩:=h
 have f0:=z2L e0
 have f1:=z2L e1
 have f2:=z2L e2
 have f3:=z2L e3
 have f4:=z2L e4
 unfold RN.raw at hr
 simp only[Bool.and_eq_true,decide_eq_true_eq]at hr
 rw[f0,f1,f2,f3,f4]at hr
 exact K.sz_le.2 ⟨X7.1 hr.1.1.1.1,X7.1 hr.1.1.1.2,X7.1 hr.1.1.2,X7.1 hr.1.2,X7.1 hr.2⟩
def RN.zero:RN:=⟨false,⟨#[]⟩,false,⟨#[]⟩,false,⟨#[]⟩,false,⟨#[]⟩,false,⟨#[]⟩⟩
end Go.Fw
