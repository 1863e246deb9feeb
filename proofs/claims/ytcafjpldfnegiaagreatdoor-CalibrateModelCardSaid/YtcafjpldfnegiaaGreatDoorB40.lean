/- A part of the proof that the law returns true for every input: an executor for the model's code, and what functions of the program compute. -/
import Derived.Test.YtcafjpldfnegiaaGreatDoorB11
import Derived.Test.YtcafjpldfnegiaaGreatDoorB15
import Derived.Test.YtcafjpldfnegiaaGreatDoorB28
import Derived.Test.YtcafjpldfnegiaaGreatDoorB36
import Derived.Test.YtcafjpldfnegiaaGreatDoorB37
import Derived.Test.YtcafjpldfnegiaaGreatDoorB38
import Derived.Test.YtcafjpldfnegiaaGreatDoorB39
import Derived.KernelRfl
open Go IntKind
namespace Go.Fw
set_option maxRecDepth 100000
theorem zeA(i:Int)(k:Int)(hk:(if i%24>12 then 24-i%24 else i%24)=k):z5o i=if k>6 then-z1h (12-k).toNat else z1h k.toNat:=by
 subst hk;rfl
theorem z8r(i:Int):PCall P 34 [j5 i] (Z0 (z5o i)):=by
 have e1:i64.wrap (24-i%24)=24-i%24:=w64 (by omega)
 cases h1:decide (i%24>12)with
 |true=>
  have h1':=of_decide_eq_true h1
  rw[zeA i (24-i%24) (if_pos h1')]
  have e2:i64.wrap (12-(24-i%24))=12-(24-i%24):=w64 (by omega)
  have b: ∀n:Int,24-i%24≠n→(i64.wrap (24-i%24)==n)=false:=fun n h=>by rw[e1];exact beq_eq_false_iff_ne.2 h
  have t: ∀n:Int,24-i%24=n→(i64.wrap (24-i%24)==n)=true:=fun n h=>by rw[e1];exact beq_iff_eq.2 h
  have hk:24-i%24=0∨24-i%24=1∨24-i%24=2∨24-i%24=3∨24-i%24=4∨24-i%24=5∨24-i%24=6∨24-i%24>6:=by omega
  rcases hk with h|h|h|h|h|h|h|h
  · rw[h];exact zo9 i h1 (t _ h)
  · rw[h];exact zpm i h1 (b _ (by omega)) (t _ h)
  · rw[h];exact zpq i h1 (b _ (by omega)) (b _ (by omega)) (t _ h)
  · rw[h];exact zoo i h1 (b _ (by omega)) (b _ (by omega)) (b _ (by omega)) (t _ h)
  · rw[h];exact zs7 i h1 (b _ (by omega)) (b _ (by omega)) (b _ (by omega)) (b _ (by omega)) (t _ h)
  · rw[h];exact znQ i h1 (b _ (by omega)) (b _ (by omega)) (b _ (by omega)) (b _ (by omega)) (b _ (by omega)) (t _ h)
  · rw[h];exact zo8 i h1 (b _ (by omega)) (b _ (by omega)) (b _ (by omega)) (b _ (by omega)) (b _ (by omega)) (b _ (by omega)) (t _ h)
  · rw[if_pos h]
    have:=zs5 i h1 (b _ (by omega)) (b _ (by omega)) (b _ (by omega)) (b _ (by omega)) (b _ (by omega)) (b _ (by omega)) (b _ (by omega)) (by rw[e1,e2];omega) (zbk _)
    rw[e1,e2]at this
    exact this
 |false=>
  have h1':=of_decide_eq_false h1
  rw[zeA i (i%24) (if_neg h1')]
  have e2:i64.wrap (12-i%24)=12-i%24:=w64 (by omega)
  have b: ∀n:Int,i%24≠n→(i%24==n)=false:=fun n h=>beq_eq_false_iff_ne.2 h
  have t: ∀n:Int,i%24=n→(i%24==n)=true:=fun n h=>beq_iff_eq.2 h
  have hk:i%24=0∨i%24=1∨i%24=2∨i%24=3∨i%24=4∨i%24=5∨i%24=6∨i%24>6:=by omega
  rcases hk with h|h|h|h|h|h|h|h
  · rw[h];exact zoy i h1 (t _ h)
  · rw[h];exact zjQ i h1 (b _ (by omega)) (t _ h)
  · rw[h];exact zk6 i h1 (b _ (by omega)) (b _ (by omega)) (t _ h)
  · rw[h];exact zn2 i h1 (b _ (by omega)) (b _ (by omega)) (b _ (by omega)) (t _ h)
  · rw[h];exact zkV i h1 (b _ (by omega)) (b _ (by omega)) (b _ (by omega)) (b _ (by omega)) (t _ h)
  · rw[h];exact zm8 i h1 (b _ (by omega)) (b _ (by omega)) (b _ (by omega)) (b _ (by omega)) (b _ (by omega)) (t _ h)
  · rw[h];exact zje i h1 (b _ (by omega)) (b _ (by omega)) (b _ (by omega)) (b _ (by omega)) (b _ (by omega)) (b _ (by omega)) (t _ h)
  · rw[if_pos h]
    have:=zlS i h1 (b _ (by omega)) (b _ (by omega)) (b _ (by omega)) (b _ (by omega)) (b _ (by omega)) (b _ (by omega)) (b _ (by omega)) (by rw[e2];omega) (zbk _)
    rw[e2]at this
    exact this
theorem zm5(i:Int):PCall P 35 [j5 i] (Z0 (z5o (i64.wrap (i%24-6)))):=
 j3 (.r 2 (z2X i) (.r 4 (z8q (i64.wrap (i%24-6))) (.c (lq 10 10) .nil))) (by kernel_rfl)
theorem zf9(i:Int):PCall P 35 [j5 i] (Z0 (z9n i)):=(zm5 i).eq (by rw[w64 (by omega)];rfl)
theorem CvL.own(l:List CV):CvL (own l):=CvL.map_cv l
theorem z9L(a b:List CV):own (a++b)=own a++own b:=by simp[own]
def th(t:Nat→Bool)(p:Nat):MV:= .cv (.lit (.bool (t p)))
theorem zoL(i:Int):PCall P 36 [j5 i] (Z0 (z5o (i64.wrap (i%24-6)))):=
 j3 (.r 2 (Y4 i) (.r 4 (z8r (i64.wrap (i%24-6))) (.c (lq 10 10) .nil))) (by kernel_rfl)
theorem zeV(i:Int):PCall P 36 [j5 i] (Z0 (z9n i)):=(zoL i).eq (by rw[w64 (by omega)];rfl)
def zn9(x:K):Bool:=decide (x.c0.natAbs<256)&&decide (x.c1.natAbs<256)&&decide (x.c2.natAbs<256)&&decide (x.c3.natAbs<256)&&decide (x.d.natAbs<256)
theorem Sm3.b{x:K}(h:zn9 x=true):Sm3 x:=by
 simp only[zn9,Bool.and_eq_true,decide_eq_true_eq]at h
 exact Sm3.of ⟨h.1.1.1.1,h.1.1.1.2,h.1.1.2,h.1.2,h.2⟩
theorem zh0(i:Int):z5o i=z5o (i%24):=by simp only[z5o,Int.emod_emod_of_dvd i (Int.dvd_refl 24)]
theorem zfW(i:Int):z9n i=z9n (i%24):=by simp only[z9n,Int.emod_emod_of_dvd i (Int.dvd_refl 24)]
theorem znd: ∀i:_root_.Fin 24,zn9 (z5o i.val)=true∧zn9 (z9n i.val)=true:=by decide+kernel
theorem ztJ(i:Int): ∃a:_root_.Fin 24,i%24=(a.val:Int):=⟨⟨(i%24).toNat,by omega⟩,by simp only;omega⟩
theorem zrE{i:Int}{a:_root_.Fin 24}(h:i%24=(a.val:Int)):z5o i=z5o a.val:=by rw[zh0 i,h]
theorem znr{i:Int}{a:_root_.Fin 24}(h:i%24=(a.val:Int)):z9n i=z9n a.val:=by rw[zfW i,h]
def zbb(x:K):List CV:=[.lit (.bool (decide (x.c0<0))),X1 (bytesOf x.c0.natAbs),.lit (.bool (decide (x.c1<0))),X1 (bytesOf x.c1.natAbs),.lit (.bool (decide (x.c2<0))),X1 (bytesOf x.c2.natAbs),.lit (.bool (decide (x.c3<0))),X1 (bytesOf x.c3.natAbs),.lit (.bool (decide (x.d<0))),X1 (bytesOf x.d.natAbs)]
def z7s(x y z:K):CV:= .agg (zbb x++(zbb y++zbb z))
structure RN where
 b0:Bool
 s0:ByteArray
 b1:Bool
 s1:ByteArray
 b2:Bool
 s2:ByteArray
 b3:Bool
 s3:ByteArray
 b4:Bool
 s4:ByteArray
namespace RN
def l(x:RN):List CV:=[.lit (.bool x.b0),X1 x.s0,.lit (.bool x.b1),X1 x.s1,.lit (.bool x.b2),X1 x.s2,.lit (.bool x.b3),X1 x.s3,.lit (.bool x.b4),X1 x.s4]
def raw(n:Nat)(x:RN):Bool:=decide (x.s0.size≤n)&&decide (x.s1.size≤n)&&decide (x.s2.size≤n)&&decide (x.s3.size≤n)&&decide (x.s4.size≤n)
def ok(x:RN):Bool:=J5 x.b0 x.s0&&J5 x.b1 x.s1&&J5 x.b2 x.s2&&J5 x.b3 x.s3&&J5 x.b4 x.s4&&decide (0<zOf x.b4 x.s4)&&decide (X3 (zOf x.b0 x.s0) (zOf x.b1 x.s1) (zOf x.b2 x.s2) (zOf x.b3 x.s3) (zOf x.b4 x.s4)=1)
theorem l_n5 {x : RN} (h0 : J5 x.b0 x.s0 = true) (h1 : J5 x.b1 x.s1 = true) (h2 : J5 x.b2 x.s2 = true) (h3 : J5 x.b3 x.s3 = true) (h4 : J5 x.b4 x.s4 = true) :
    CV.agg x.l=n5C (zOf x.b0 x.s0) (zOf x.b1 x.s1) (zOf x.b2 x.s2) (zOf x.b3 x.s3) (zOf x.b4 x.s4):=by
 obtain⟨a0,c0,d0⟩:=z04 h0
 obtain⟨a1,c1,d1⟩:=z04 h1
 obtain⟨a2,c2,d2⟩:=z04 h2
 obtain⟨a3,c3,d3⟩:=z04 h3
 obtain⟨a4,c4,d4⟩:=z04 h4
 have e0:=z3D h0
 have e1:=z3D h1
 have e2:=z3D h2
 have e3:=z3D h3
 have e4:=z3D h4
 unfold J2 at e0 e1 e2 e3 e4
 simp only[CV.agg.injEq,List.cons.injEq,and_true]at e0 e1 e2 e3 e4
 unfold l
 rw[e0.1,e0.2,e1.1,e1.2,e2.1,e2.2,e3.1,e3.2,e4.1,e4.2]
 rfl
theorem ok_k{x:RN}(h:x.ok=true): ∃k:K,x.l=zbb k:=by
 unfold ok at h
 simp only[Bool.and_eq_true,decide_eq_true_eq]at h
 obtain⟨⟨⟨⟨⟨⟨h0,h1⟩,h2⟩,h3⟩,h4⟩,h5⟩,h6⟩:=h
 have e:=l_n5 h0 h1 h2 h3 h4
 refine⟨⟨_,_,_,_,_,h5,h6⟩,?_⟩
 injection e
end RN
theorem zgR(a b c d e:Int):X3 a b c d e=Nat.gcd (Nat.gcd (Nat.gcd (Nat.gcd a.natAbs b.natAbs) c.natAbs) d.natAbs) e.natAbs:=by
 unfold X3
 rw[Nat.gcd_comm e.natAbs a.natAbs]
 simp only[Nat.gcd_assoc]
 congr 1
 rw[Nat.gcd_comm e.natAbs]
 simp only[Nat.gcd_assoc]
theorem Sml.str{s:ByteArray}(h:s.size≤1000000):Sml (J9 s):=Sml.of_lt (Nat.lt_of_lt_of_le (z0L s) (Nat.pow_le_pow_right (by decide) h)) (by decide)
theorem z3c(z:Int):decide (z.sign>0)=decide (0<z):=by
 rw[decide_eq_decide];exact Int.sign_pos_iff
theorem Sml.ofStr{s:ByteArray}{n:Nat}(hn:n<1073741824)(h:s.size≤n):Sml (J9 s):=Sml.of_lt (z0L s) (Nat.lt_of_le_of_lt h hn)
theorem zhe(x:RN){n:Nat}(hn:n<1073741824)(hs:x.raw n=true):PCall P 124 [.agg x.l] (.lit (.bool x.ok)):=by
 obtain⟨b0,s0,b1,s1,b2,s2,b3,s3,b4,s4⟩:=x
 simp only[RN.raw,Bool.and_eq_true,decide_eq_true_eq]at hs
 obtain⟨⟨⟨⟨z0,z1⟩,z2⟩,z3⟩,z4⟩:=hs
 have y0:=Sml.ofStr hn z0
 have y1:=Sml.ofStr hn z1
 have y2:=Sml.ofStr hn z2
 have y3:=Sml.ofStr hn z3
 have y4:=Sml.ofStr hn z4
 show PCall P 124 [r5 b0 b1 b2 b3 b4 s0 s1 s2 s3 s4] _
 by_cases hw: ∀i,i<5→z6A (fB b0 b1 b2 b3 b4) (fS s0 s1 s2 s3 s4) i
 · have v0:J5 b0 s0=true:=(hw 0 (by decide)).2
   have v1:J5 b1 s1=true:=(hw 1 (by decide)).2
   have v2:J5 b2 s2=true:=(hw 2 (by decide)).2
   have v3:J5 b3 s3=true:=(hw 3 (by decide)).2
   have v4:J5 b4 s4=true:=(hw 4 (by decide)).2
   have bd: ∀{b:Bool} {s:ByteArray},J5 b s=true→s.size≤3→(zOf b s).natAbs<2^63:=fun {b s} hv hs=>by
    rw[(z04 hv).2.2]
    exact Nat.lt_of_lt_of_le (z0L s) (Nat.le_trans (Nat.pow_le_pow_right (by decide) hs) (by decide))
   have hok:RN.ok ⟨b0,s0,b1,s1,b2,s2,b3,s3,b4,s4⟩=(decide (0<zOf b4 s4)&&decide (X3 (zOf b0 s0) (zOf b1 s1) (zOf b2 s2) (zOf b3 s3) (zOf b4 s4)=1)):=by
    simp only[RN.ok,v0,v1,v2,v3,v4,Bool.true_and]
   rw[hok]
   by_cases hp:0<zOf b4 s4
   · have:=zro b0 b1 b2 b3 b4 s0 s1 s2 s3 s4 (decide_eq_true hp) hw ⟨bd v0 (hw 0 (by decide)).1,bd v1 (hw 1 (by decide)).1,bd v2 (hw 2 (by decide)).1,bd v3 (hw 3 (by decide)).1,bd v4 (hw 4 (by decide)).1⟩
     refine this.eqB ?_
     show(((X3 (zOf b0 s0) (zOf b1 s1) (zOf b2 s2) (zOf b3 s3) (zOf b4 s4):Nat):Int)==1)=_
     rw[decide_eq_true hp,Bool.true_and,Bool.eq_iff_iff,beq_iff_eq,decide_eq_true_eq]
     omega
   · have:=zoE b0 b1 b2 b3 b4 s0 s1 s2 s3 s4 (decide_eq_false hp) hw
     refine this.eqB ?_
     rw[decide_eq_false hp,Bool.false_and]
 · cases v0:J5 b0 s0
   · refine(zns b0 b1 b2 b3 b4 s0 s1 s2 s3 s4 v0 hw).eqB ?_
     simp[RN.ok,v0]
   cases v1:J5 b1 s1
   · refine(znP b0 b1 b2 b3 b4 s0 s1 s2 s3 s4 v0 v1 hw y0).eqB ?_
     simp[RN.ok,v1]
   have t0:=(z04 v0).2.2
   have t1:=(z04 v1).2.2
   have g0:Sml ((Nat.gcd 0 (zOf b0 s0).natAbs:Nat):Int).natAbs:=by rw[Int.natAbs_natCast,Nat.gcd_zero_left,t0];exact y0
   cases v2:J5 b2 s2
   · refine(zr2 b0 b1 b2 b3 b4 s0 s1 s2 s3 s4 v0 v1 v2 hw y0 g0 y1).eqB ?_
     simp[RN.ok,v2]
   have t2:=(z04 v2).2.2
   have g1:Sml (((((Nat.gcd 0 (zOf b0 s0).natAbs:Nat):Int).natAbs).gcd (zOf b1 s1).natAbs:Nat):Int).natAbs:=by rw[Int.natAbs_natCast];exact g0.gcd (by rw[t1];exact y1)
   cases v3:J5 b3 s3
   · refine(zrw b0 b1 b2 b3 b4 s0 s1 s2 s3 s4 v0 v1 v2 v3 hw y0 g0 y1 g1 y2).eqB ?_
     simp[RN.ok,v3]
   have t3:=(z04 v3).2.2
   have g2:Sml (((((((Nat.gcd 0 (zOf b0 s0).natAbs:Nat):Int).natAbs).gcd (zOf b1 s1).natAbs:Nat):Int).natAbs.gcd (zOf b2 s2).natAbs:Nat):Int).natAbs:=by rw[Int.natAbs_natCast];exact g1.gcd (by rw[t2];exact y2)
   cases v4:J5 b4 s4
   · refine(znJ b0 b1 b2 b3 b4 s0 s1 s2 s3 s4 v0 v1 v2 v3 v4 hw y0 g0 y1 g1 y2 g2 y3).eqB ?_
     simp[RN.ok,v4]
   have g3:Sml (((((((((Nat.gcd 0 (zOf b0 s0).natAbs:Nat):Int).natAbs).gcd (zOf b1 s1).natAbs:Nat):Int).natAbs.gcd (zOf b2 s2).natAbs:Nat):Int).natAbs.gcd (zOf b3 s3).natAbs:Nat):Int).natAbs:=by rw[Int.natAbs_natCast];exact g2.gcd (by rw[t3];exact y3)
   have hok:RN.ok ⟨b0,s0,b1,s1,b2,s2,b3,s3,b4,s4⟩=(decide (0<zOf b4 s4)&&decide (X3 (zOf b0 s0) (zOf b1 s1) (zOf b2 s2) (zOf b3 s3) (zOf b4 s4)=1)):=by
    simp only[RN.ok,v0,v1,v2,v3,v4,Bool.true_and]
   rw[hok]
   by_cases hp:0<zOf b4 s4
   · refine(zo1 b0 b1 b2 b3 b4 s0 s1 s2 s3 s4 v0 v1 v2 v3 v4 (by rw[z3c];exact decide_eq_true hp) hw y0 g0 y1 g1 y2 g2 y3 g3 y4 (by decide)).eqB ?_
     rw[zgR,decide_eq_true hp,Bool.true_and]
     simp only[Int.natAbs_natCast,Nat.gcd_zero_left,z14,Bool.and_true]
     rw[decide_eq_false (by omega)]
     rfl
   · refine(zoF b0 b1 b2 b3 b4 s0 s1 s2 s3 s4 v0 v1 v2 v3 v4 (by rw[z3c];exact decide_eq_false hp) hw y0 g0 y1 g1 y2 g2 y3).eqB ?_
     rw[decide_eq_false hp,Bool.false_and]
theorem zaU(x:RN)(hs:x.raw 1000000=true):PCall P 124 [.agg x.l] (.lit (.bool x.ok)):=zhe x (by decide) hs
theorem z4a{b:Bool}{s:ByteArray}(hv:J5 b s=true)(h:s.size≤1000000):SmlZ (zOf b s):=by
 show Sml (zOf b s).natAbs
 rw[(z04 hv).2.2];exact Sml.str h
theorem zad(x:RN)(hs:x.raw 1000000=true):PCall P 154 [.agg x.l] (.lit (.bool x.ok)):=by
 cases v0:J5 x.b0 x.s0
 · refine(zpS x.b0 x.b1 x.b2 x.b3 x.b4 x.s0 x.s1 x.s2 x.s3 x.s4 v0).eqB ?_
   simp[RN.ok,v0]
 cases v1:J5 x.b1 x.s1
 · refine(zqG x.b0 x.b1 x.b2 x.b3 x.b4 x.s0 x.s1 x.s2 x.s3 x.s4 v0 v1).eqB ?_
   simp[RN.ok,v1]
 cases v2:J5 x.b2 x.s2
 · refine(zql x.b0 x.b1 x.b2 x.b3 x.b4 x.s0 x.s1 x.s2 x.s3 x.s4 v0 v1 v2).eqB ?_
   simp[RN.ok,v2]
 cases v3:J5 x.b3 x.s3
 · refine(zon x.b0 x.b1 x.b2 x.b3 x.b4 x.s0 x.s1 x.s2 x.s3 x.s4 v0 v1 v2 v3).eqB ?_
   simp[RN.ok,v3]
 cases v4:J5 x.b4 x.s4
 · refine(znD x.b0 x.b1 x.b2 x.b3 x.b4 x.s0 x.s1 x.s2 x.s3 x.s4 v0 v1 v2 v3 v4).eqB ?_
   simp[RN.ok,v4]
 simp only[RN.raw,Bool.and_eq_true,decide_eq_true_eq]at hs
 obtain⟨⟨⟨⟨z0,z1⟩,z2⟩,z3⟩,z4⟩:=hs
 rw[RN.l_n5 v0 v1 v2 v3 v4]
 have hok:x.ok=(decide (0<zOf x.b4 x.s4)&&decide (X3 (zOf x.b0 x.s0) (zOf x.b1 x.s1) (zOf x.b2 x.s2) (zOf x.b3 x.s3) (zOf x.b4 x.s4)=1)):=by
  simp only[RN.ok,v0,v1,v2,v3,v4,Bool.true_and]
 rw[hok]
 by_cases hp:0<zOf x.b4 x.s4
 · refine(z8m _ _ _ _ _ (by rw[z3c];exact decide_eq_true hp) (z4a v0 z0) (z4a v1 z1) (z4a v2 z2) (z4a v3 z3) (z4a v4 z4) (by decide)).eqB ?_
   rw[decide_eq_true hp,Bool.true_and]
   simp only[Int.natAbs_natCast,z14,Bool.and_true]
   rw[decide_eq_false (by omega)]
   rfl
 · refine(zdI _ _ _ _ _ (by rw[z3c];exact decide_eq_false hp)).eqB ?_
   rw[decide_eq_false hp,Bool.false_and]
def RN.c(x:RN):CV:=r5 x.b0 x.b1 x.b2 x.b3 x.b4 x.s0 x.s1 x.s2 x.s3 x.s4
def z5f(x y z:RN):CV:= .agg (x.l++(y.l++z.l))
theorem z1c(x:RN)(hs:x.raw 1000000=true):PCall P 124 [x.c] (.lit (.bool x.ok)):=zaU x hs
theorem z30(x:RN)(hs:x.raw 1000000=true):PCall P 154 [x.c] (.lit (.bool x.ok)):=zad x hs
theorem zb9(a b c d e:Int)(he:e≠0)(ha:SmlZ a)(hb:SmlZ b)(hc:SmlZ c)(hd:SmlZ d)(hl:SmlZ e):PCall P 129 [c4C a b c d,J2 e] (Z0 (K.of a b c d e)):=by
 have gl: ∀x y:Nat,x≠0→Sml x→Nat.gcd x y≠0∧Sml (Nat.gcd x y):=fun x y h0 h=>⟨by have:=Nat.gcd_pos_of_pos_left y (Nat.pos_of_ne_zero h0);omega,h.mono (Nat.gcd_le_left _ (Nat.pos_of_ne_zero h0))⟩
 obtain⟨n1,l1⟩:=gl e.natAbs a.natAbs (by omega) hl
 obtain⟨n2,l2⟩:=gl _ b.natAbs n1 l1
 obtain⟨n3,l3⟩:=gl _ c.natAbs n2 l2
 obtain⟨n4,l4⟩:=gl _ d.natAbs n3 l3
 obtain⟨v0,v1,v2,v3,v4⟩:=K.den_dvd a b c d e
 have hne:=K.den_ne (c0:=a) (c1:=b) (c2:=c) (c3:=d) he
 have hdl:Sml (K.den a b c d e).natAbs:=by rw[K.den_natAbs];exact l4
 exact z8R a b c d e he (z2J _ _ hl ha) (z2J _ _ (by rwa[Int.natAbs_natCast]) hb) (z2J _ _ (by rwa[Int.natAbs_natCast]) hc) (z2J _ _ (by rwa[Int.natAbs_natCast]) hd)
  (z2f _ _ ha hdl hne v0) (z2f _ _ hb hdl hne v1) (z2f _ _ hc hdl hne v2) (z2f _ _ hd hdl hne v3) (z2f _ _ hl hdl hne v4)
def RN.ofK(x:K):RN:=⟨decide (x.c0<0),bytesOf x.c0.natAbs,decide (x.c1<0),bytesOf x.c1.natAbs,decide (x.c2<0),bytesOf x.c2.natAbs,decide (x.c3<0),bytesOf x.c3.natAbs,decide (x.d<0),bytesOf x.d.natAbs⟩
theorem RN.ofK_l(x:K):(RN.ofK x).l=zbb x:=rfl
theorem RN.ofK_ok(x:K):(RN.ofK x).ok=true:=by
 unfold RN.ok RN.ofK
 simp only[z4I,zfe,Bool.true_and,Bool.and_eq_true,decide_eq_true_eq]
 exact⟨x.pos,x.cop⟩
theorem RN.ofK_raw(x:K){n:Nat}(h:x.sz≤n):(RN.ofK x).raw n=true:=by
 obtain⟨h0,h1,h2,h3,h4⟩:=K.sz_le.1 h
 unfold RN.raw RN.ofK
 simp only[Bool.and_eq_true,decide_eq_true_eq]
 exact⟨⟨⟨⟨V7.2 h0,V7.2 h1⟩,V7.2 h2⟩,V7.2 h3⟩,V7.2 h4⟩
theorem z16(x:K)(h:x.sz≤1000000):PCall P 124 [Z0 x] (.lit (.bool true)):=by
 have:=zaU (RN.ofK x) (RN.ofK_raw x h)
 rw[RN.ofK_ok]at this
 exact this
open Classical in
noncomputable def wdA(x:K):Nat→Int:=if h:Sm3 x then kZ x else(z6a x h).choose
open Classical in
noncomputable def z8k(x:K):Bool:=decide (Sm3 x)
theorem z4T(x:K):PCall P 125 [Z0 x] (wdV (wdA x) (z8k x)):=by
 rcases Classical.em (Sm3 x)with h|h
 · have e1:wdA x=kZ x:=dif_pos h
   have e2:z8k x=true:=by unfold z8k;exact @decide_eq_true _ (_) h
   rw[e1,e2];exact z4E x h
 · have e1:wdA x=(z6a x h).choose:=dif_neg h
   have e2:z8k x=false:=by unfold z8k;exact @decide_eq_false _ (_) h
   rw[e1,e2];exact(z6a x h).choose_spec
theorem z3V{x:K}(h:z8k x=true):Sm3 x:=by
 unfold z8k at h
 exact @of_decide_eq_true _ (_) h
theorem zso(x y:K)(h1:(z8k x)=true)(h2:(z8k y)=false)(a:x.sz≤1000000)(e:y.sz≤1000000)(f:Sml x.c0.natAbs)(g:Sml y.d.natAbs)(i:Sml (x.c0.natAbs*y.d.natAbs))(j:Sml y.c0.natAbs)(k:Sml x.d.natAbs)(l:Sml (y.c0.natAbs*x.d.natAbs))(m:Sml (x.c0*y.d).natAbs)(n:Sml (y.c0*x.d).natAbs)(o:Sml ((x.c0*y.d).natAbs+(y.c0*x.d).natAbs))(p:Sml x.c1.natAbs)(q:Sml y.d.natAbs)(s:Sml (x.c1.natAbs*y.d.natAbs))(t:Sml y.c1.natAbs)(u:Sml x.d.natAbs)(v:Sml (y.c1.natAbs*x.d.natAbs))(w:Sml (x.c1*y.d).natAbs)(z:Sml (y.c1*x.d).natAbs)(a0:Sml ((x.c1*y.d).natAbs+(y.c1*x.d).natAbs))(a1:Sml x.c2.natAbs)(a2:Sml y.d.natAbs)(a3:Sml (x.c2.natAbs*y.d.natAbs))(a4:Sml y.c2.natAbs)(a5:Sml x.d.natAbs)(a6:Sml (y.c2.natAbs*x.d.natAbs))(a7:Sml (x.c2*y.d).natAbs)(a8:Sml (y.c2*x.d).natAbs)(a9:Sml ((x.c2*y.d).natAbs+(y.c2*x.d).natAbs))(aa:Sml x.c3.natAbs)(ab:Sml y.d.natAbs)(ac:Sml (x.c3.natAbs*y.d.natAbs))(ad:Sml y.c3.natAbs)(ae:Sml x.d.natAbs)(af:Sml (y.c3.natAbs*x.d.natAbs))(ag:Sml (x.c3*y.d).natAbs)(ah:Sml (y.c3*x.d).natAbs)(ai:Sml ((x.c3*y.d).natAbs+(y.c3*x.d).natAbs))(aj:Sml x.d.natAbs)(ak:Sml y.d.natAbs)(al:Sml (x.d.natAbs*y.d.natAbs))(am:x.d*y.d≠0)(an:SmlZ (x.c0*y.d+y.c0*x.d))(ao:SmlZ (x.c1*y.d+y.c1*x.d))(ap:SmlZ (x.c2*y.d+y.c2*x.d))(aq:SmlZ (x.c3*y.d+y.c3*x.d))(ar:SmlZ (x.d*y.d)):PCall P 37 [Z0 x,Z0 y] (Z0 (K.of (x.c0*y.d+y.c0*x.d) (x.c1*y.d+y.c1*x.d) (x.c2*y.d+y.c2*x.d) (x.c3*y.d+y.c3*x.d) (x.d*y.d))):=
 j3 (.r 4 (z16 x a) (.r 8 (z16 y e) (.r 13 (z4T x) (.c (lq 5 5) (.b 21 h1 (.r 23 (z4T y) (.c (lq 5 5) (.b 31 h2 (.c (bq 0 4) (.r 45 (Y5 x.c0 y.d f g i) (.c (bq 0 4) (.r 52 (Y5 y.c0 x.d j k l) (.r 53 (z0v (x.c0*y.d) (y.c0*x.d) m n o) (.c (bq 0 4) (.c (lq 2 8) (.c (bq 1 4) (.r 70 (Y5 x.c1 y.d p q s) (.c (bq 1 4) (.r 77 (Y5 y.c1 x.d t u v) (.r 78 (z0v (x.c1*y.d) (y.c1*x.d) w z a0) (.c (bq 1 4) (.c (lq 4 8) (.c (bq 2 4) (.r 95 (Y5 x.c2 y.d a1 a2 a3) (.c (bq 2 4) (.r 102 (Y5 y.c2 x.d a4 a5 a6) (.r 103 (z0v (x.c2*y.d) (y.c2*x.d) a7 a8 a9) (.c (bq 2 4) (.c (lq 6 8) (.c (bq 3 4) (.r 120 (Y5 x.c3 y.d aa ab ac) (.c (bq 3 4) (.r 127 (Y5 y.c3 x.d ad ae af) (.r 128 (z0v (x.c3*y.d) (y.c3*x.d) ag ah ai) (.c (bq 3 4) (.c (lq 8 8) (.r 143 (Y5 x.d y.d aj ak al) (.r 144 (zb9 (x.c0*y.d+y.c0*x.d) (x.c1*y.d+y.c1*x.d) (x.c2*y.d+y.c2*x.d) (x.c3*y.d+y.c3*x.d) (x.d*y.d) am an ao ap aq ar) (.c (lq 10 10) .nil))))))))))))))))))))))))))))))))))))))) (by kernel_rfl)
theorem zoX(x y:K)(h1:(z8k x)=false)(a:x.sz≤1000000)(e:y.sz≤1000000)(f:Sml x.c0.natAbs)(g:Sml y.d.natAbs)(i:Sml (x.c0.natAbs*y.d.natAbs))(j:Sml y.c0.natAbs)(k:Sml x.d.natAbs)(l:Sml (y.c0.natAbs*x.d.natAbs))(m:Sml (x.c0*y.d).natAbs)(n:Sml (y.c0*x.d).natAbs)(o:Sml ((x.c0*y.d).natAbs+(y.c0*x.d).natAbs))(p:Sml x.c1.natAbs)(q:Sml y.d.natAbs)(s:Sml (x.c1.natAbs*y.d.natAbs))(t:Sml y.c1.natAbs)(u:Sml x.d.natAbs)(v:Sml (y.c1.natAbs*x.d.natAbs))(w:Sml (x.c1*y.d).natAbs)(z:Sml (y.c1*x.d).natAbs)(a0:Sml ((x.c1*y.d).natAbs+(y.c1*x.d).natAbs))(a1:Sml x.c2.natAbs)(a2:Sml y.d.natAbs)(a3:Sml (x.c2.natAbs*y.d.natAbs))(a4:Sml y.c2.natAbs)(a5:Sml x.d.natAbs)(a6:Sml (y.c2.natAbs*x.d.natAbs))(a7:Sml (x.c2*y.d).natAbs)(a8:Sml (y.c2*x.d).natAbs)(a9:Sml ((x.c2*y.d).natAbs+(y.c2*x.d).natAbs))(aa:Sml x.c3.natAbs)(ab:Sml y.d.natAbs)(ac:Sml (x.c3.natAbs*y.d.natAbs))(ad:Sml y.c3.natAbs)(ae:Sml x.d.natAbs)(af:Sml (y.c3.natAbs*x.d.natAbs))(ag:Sml (x.c3*y.d).natAbs)(ah:Sml (y.c3*x.d).natAbs)(ai:Sml ((x.c3*y.d).natAbs+(y.c3*x.d).natAbs))(aj:Sml x.d.natAbs)(ak:Sml y.d.natAbs)(al:Sml (x.d.natAbs*y.d.natAbs))(am:x.d*y.d≠0)(an:SmlZ (x.c0*y.d+y.c0*x.d))(ao:SmlZ (x.c1*y.d+y.c1*x.d))(ap:SmlZ (x.c2*y.d+y.c2*x.d))(aq:SmlZ (x.c3*y.d+y.c3*x.d))(ar:SmlZ (x.d*y.d)):PCall P 37 [Z0 x,Z0 y] (Z0 (K.of (x.c0*y.d+y.c0*x.d) (x.c1*y.d+y.c1*x.d) (x.c2*y.d+y.c2*x.d) (x.c3*y.d+y.c3*x.d) (x.d*y.d))):=
 j3 (.r 4 (z16 x a) (.r 8 (z16 y e) (.r 13 (z4T x) (.c (lq 5 5) (.b 21 h1 (.c (bq 0 4) (.r 35 (Y5 x.c0 y.d f g i) (.c (bq 0 4) (.r 42 (Y5 y.c0 x.d j k l) (.r 43 (z0v (x.c0*y.d) (y.c0*x.d) m n o) (.c (bq 0 4) (.c (lq 2 8) (.c (bq 1 4) (.r 60 (Y5 x.c1 y.d p q s) (.c (bq 1 4) (.r 67 (Y5 y.c1 x.d t u v) (.r 68 (z0v (x.c1*y.d) (y.c1*x.d) w z a0) (.c (bq 1 4) (.c (lq 4 8) (.c (bq 2 4) (.r 85 (Y5 x.c2 y.d a1 a2 a3) (.c (bq 2 4) (.r 92 (Y5 y.c2 x.d a4 a5 a6) (.r 93 (z0v (x.c2*y.d) (y.c2*x.d) a7 a8 a9) (.c (bq 2 4) (.c (lq 6 8) (.c (bq 3 4) (.r 110 (Y5 x.c3 y.d aa ab ac) (.c (bq 3 4) (.r 117 (Y5 y.c3 x.d ad ae af) (.r 118 (z0v (x.c3*y.d) (y.c3*x.d) ag ah ai) (.c (bq 3 4) (.c (lq 8 8) (.r 133 (Y5 x.d y.d aj ak al) (.r 134 (zb9 (x.c0*y.d+y.c0*x.d) (x.c1*y.d+y.c1*x.d) (x.c2*y.d+y.c2*x.d) (x.c3*y.d+y.c3*x.d) (x.d*y.d) am an ao ap aq ar) (.c (lq 10 10) .nil)))))))))))))))))))))))))))))))))))) (by kernel_rfl)
theorem zqp(x:K)(a:x.sz≤1000000):PCall P 41 [Z0 x] (.agg [.lit (.bool (decide (-x.c0<0))),.lit (.string (bytesOf (-x.c0).natAbs)),.lit (.bool (decide (-x.c1<0))),.lit (.string (bytesOf (-x.c1).natAbs)),.lit (.bool (decide (-x.c2<0))),.lit (.string (bytesOf (-x.c2).natAbs)),.lit (.bool (decide (-x.c3<0))),.lit (.string (bytesOf (-x.c3).natAbs)),.lit (.bool (decide (x.d<0))),.lit (.string (bytesOf x.d.natAbs))]):=
 j3 (.r 3 (z16 x a) (.c (lq 10 10) (.c (bq 0 4) (.r 19 (z0R x.c0) (.c (bq 0 4) (.c (lq 2 10) (.c (bq 1 4) (.r 35 (z0R x.c1) (.c (bq 1 4) (.c (lq 4 10) (.c (bq 2 4) (.r 51 (z0R x.c2) (.c (bq 2 4) (.c (lq 6 10) (.c (bq 3 4) (.r 67 (z0R x.c3) (.c (bq 3 4) (.c (lq 8 10) (.c (lq 10 10) .nil))))))))))))))))))) (by kernel_rfl)
def Mil(a:Int):Prop:= ∃n,n≤1000000∧a.natAbs<256^n
theorem Mil.sml{a:Int}(h:Mil a):Sml a.natAbs:=by
 obtain⟨n,hn,h⟩:=h
 exact Sml.of_lt h (by omega)
theorem mul_lt_pow{a b n m:Nat}(ha:a<256^n)(hb:b<256^m):a*b<256^(n+m):=by
 rw[Nat.pow_add]
 exact Nat.mul_lt_mul'' ha hb
theorem z6Y{a b n:Nat}(ha:a<256^n)(hb:b<256^n):a+b<256^(n+1):=by
 rw[Nat.pow_succ];omega
theorem zgj{a n m:Nat}(ha:a<256^n)(h:n≤m):a<256^m:=Nat.lt_of_lt_of_le ha (Nat.pow_le_pow_right (by decide) h)
def By(n:Nat)(a:Int):Prop:=a.natAbs<256^n
theorem By.sml{n:Nat}{a:Int}(h:By n a)(hn:n<1073741824):Sml a.natAbs:=Sml.of_lt h hn
theorem By.mul{n m:Nat}{a b:Int}(ha:By n a)(hb:By m b):By (n+m) (a*b):=by
 unfold By;rw[Int.natAbs_mul];exact mul_lt_pow ha hb
theorem By.mono{n m:Nat}{a:Int}(h:By n a)(hm:n≤m):By m a:=zgj h hm
theorem By.add{n:Nat}{a b:Int}(ha:By n a)(hb:By n b):By (n+1) (a+b):=Nat.lt_of_le_of_lt (Int.natAbs_add_le ..) (z6Y ha hb)
theorem By.neg{n:Nat}{a:Int}(h:By n a):By n (-a):=by unfold By;rw[Int.natAbs_neg];exact h
theorem By.sm2{n m:Nat}{a b:Int}(ha:By n a)(hb:By m b)(hn:n+m<1073741824):Sml (a.natAbs*b.natAbs):=Sml.of_lt (mul_lt_pow ha hb) hn
theorem By.sma{n:Nat}{a b:Int}(ha:By n a)(hb:By n b)(hn:n+1<1073741824):Sml (a.natAbs+b.natAbs):=Sml.of_lt (z6Y ha hb) hn
theorem By.of_sz{x:K}{n:Nat}(h:x.sz≤n):By n x.c0∧By n x.c1∧By n x.c2∧By n x.c3∧By n x.d:=K.sz_le.1 h
theorem zeK(x y:K)(hx:x.sz≤1000000)(hy:y.sz≤1000000):PCall P 37 [Z0 x,Z0 y] (Z0 (x+y)):=by
 have hxs:=hx
 have hys:=hy
 obtain⟨x0,x1,x2,x3,xd⟩:=By.of_sz hx
 obtain⟨y0,y1,y2,y3,yd⟩:=By.of_sz hy
 have L:(1000000:Nat)<1073741824:=by decide
 have L2:(1000000:Nat)+1000000<1073741824:=by decide
 have L3:(1000000:Nat)+1000000+1<1073741824:=by decide
 have key: ∀{a b:Int},By 1000000 a→By 1000000 b→Sml (a*y.d).natAbs∧Sml (b*x.d).natAbs∧Sml ((a*y.d).natAbs+(b*x.d).natAbs)∧SmlZ (a*y.d+b*x.d):=fun ha hb=>
  ⟨(ha.mul yd).sml L2,(hb.mul xd).sml L2,(ha.mul yd).sma (hb.mul xd) L3,((ha.mul yd).add (hb.mul xd)).sml L3⟩
 obtain⟨a1,a2,a3,a4⟩:=key x0 y0
 obtain⟨b1,b2,b3,b4⟩:=key x1 y1
 obtain⟨c1,c2,c3,c4⟩:=key x2 y2
 obtain⟨d1,d2,d3,d4⟩:=key x3 y3
 have dn:x.d*y.d≠0:=Int.mul_ne_zero x.d_ne y.d_ne
 cases h1:z8k x
 · exact zoX x y h1 hxs hys (x0.sml L) (yd.sml L) (x0.sm2 yd L2) (y0.sml L) (xd.sml L) (y0.sm2 xd L2) a1 a2 a3 (x1.sml L) (yd.sml L) (x1.sm2 yd L2) (y1.sml L) (xd.sml L) (y1.sm2 xd L2) b1 b2 b3
     (x2.sml L) (yd.sml L) (x2.sm2 yd L2) (y2.sml L) (xd.sml L) (y2.sm2 xd L2) c1 c2 c3 (x3.sml L) (yd.sml L) (x3.sm2 yd L2) (y3.sml L) (xd.sml L) (y3.sm2 xd L2) d1 d2 d3 (xd.sml L) (yd.sml L) (xd.sm2 yd L2) dn a4 b4 c4 d4 ((xd.mul yd).sml L2)
 · cases h2:z8k y
   · exact zso x y h1 h2 hxs hys (x0.sml L) (yd.sml L) (x0.sm2 yd L2) (y0.sml L) (xd.sml L) (y0.sm2 xd L2) a1 a2 a3 (x1.sml L) (yd.sml L) (x1.sm2 yd L2) (y1.sml L) (xd.sml L) (y1.sm2 xd L2) b1 b2 b3
       (x2.sml L) (yd.sml L) (x2.sm2 yd L2) (y2.sml L) (xd.sml L) (y2.sm2 xd L2) c1 c2 c3 (x3.sml L) (yd.sml L) (x3.sm2 yd L2) (y3.sml L) (xd.sml L) (y3.sm2 xd L2) d1 d2 d3 (xd.sml L) (yd.sml L) (xd.sm2 yd L2) dn a4 b4 c4 d4 ((xd.mul yd).sml L2)
   · exact zrJ x y (z3V h1) (z3V h2)
theorem zpl(x:K)(hx:x.sz≤1000000):PCall P 41 [Z0 x] (Z0 (-x)):=zqp x hx
def zna(X Y C:Nat→Int)(i:Nat):St:=⟨J1 66 [(2,.ptr 0 0),(3,.ptr 1 0),(4,.ptr 2 0),(5,.ptr 3 0),(6,.cv (j5 (i:Int)))],[some (cl4 X),some (cl4 Y),some (cl4 (fun _=>0)),some (cl4 C)]⟩
def zfw(X Y C:Nat→Int)(i j:Nat):St:=⟨J1 66 [(2,.ptr 0 0),(3,.ptr 1 0),(4,.ptr 2 0),(5,.ptr 3 0),(6,.cv (j5 (i:Int))),(7,.cv (j5 (j:Int)))],[some (cl4 X),some (cl4 Y),some (cl4 (fun _=>0)),some (cl4 C)]⟩
def tS(i j:Nat):Nat:=[31,34,34,37].getD (i&&&j) 0
section
variable(X Y C:Nat→Int)
theorem ztj : ∀ i j, i < 4 → j < 4 →
    (z3O P 130 (loopHead P 130 1) (zfw X Y C i j) [(7,.r (j5 (X i).sign)),(9,.b true),(20,.stop)] false 100000).pick [2,3,4,5,6,7] [0,1,2,3]=
     some (loopHead P 130 1,zfw X Y C i (j+1),[(0:Int)≤(i:Int)∧(i:Int)<4,PCall P 183 [J2 (X i)] (j5 (X i).sign),((X i).sign==(0:Int))=true,CvL (cl4 X),CvL (cl4 Y),CvL (cl4 (fun _=>0)),CvL (cl4 C)]):=by
 intro i j hi hj
 have hi':i=0∨i=1∨i=2∨i=3:=by omega
 have hj':j=0∨j=1∨j=2∨j=3:=by omega
 rcases hi' with rfl|rfl|rfl|rfl<;>rcases hj' with rfl|rfl|rfl|rfl<;>(show _=_;kernel_rfl)
theorem zt1 : ∀ i j, i < 4 → j < 4 →
    (z3O P 130 (loopHead P 130 1) (zfw X Y C i j) [(7,.r (j5 (X i).sign)),(9,.b false),(13,.r (j5 (Y j).sign)),(16,.b true),(20,.stop)] false 100000).pick [2,3,4,5,6,7] [0,1,2,3]=
     some (loopHead P 130 1,zfw X Y C i (j+1),[(0:Int)≤(i:Int)∧(i:Int)<4,PCall P 183 [J2 (X i)] (j5 (X i).sign),((X i).sign==(0:Int))=false,(0:Int)≤(j:Int)∧(j:Int)<4,PCall P 183 [J2 (Y j)] (j5 (Y j).sign),((Y j).sign==(0:Int))=true,CvL (cl4 X),CvL (cl4 Y),CvL (cl4 (fun _=>0)),CvL (cl4 C)]):=by
 intro i j hi hj
 have hi':i=0∨i=1∨i=2∨i=3:=by omega
 have hj':j=0∨j=1∨j=2∨j=3:=by omega
 rcases hi' with rfl|rfl|rfl|rfl<;>rcases hj' with rfl|rfl|rfl|rfl<;>(show _=_;kernel_rfl)
theorem zsK : ∀ i j, i < 4 → j < 4 →
    (z3O P 130 (loopHead P 130 1) (zfw X Y C i j) [(7,.r (j5 (X i).sign)),(9,.b false),(13,.r (j5 (Y j).sign)),(16,.b false),(tS i j,.r (J2 (sq4 i j))),(tS i j+7,.r (J2 (X i*Y j))),(tS i j+8,.r (J2 (sq4 i j*(X i*Y j)))),(tS i j+20,.r (J2 (C (i^^^j)+sq4 i j*(X i*Y j)))),(tS i j+26,.stop)] false 100000).pick [2,3,4,5,6,7] [0,1,2,3]=
     some (loopHead P 130 1,zfw X Y (zkG C (i^^^j) (C (i^^^j)+sq4 i j*(X i*Y j))) i (j+1),[(0:Int)≤(i:Int)∧(i:Int)<4,PCall P 183 [J2 (X i)] (j5 (X i).sign),((X i).sign==(0:Int))=false,(0:Int)≤(j:Int)∧(j:Int)<4,PCall P 183 [J2 (Y j)] (j5 (Y j).sign),((Y j).sign==(0:Int))=false,
      PCall P 131 [j5 (sq4 i j)] (J2 (sq4 i j)),(0:Int)≤(i:Int)∧(i:Int)<4,(0:Int)≤(j:Int)∧(j:Int)<4,PCall P 128 [J2 (X i),J2 (Y j)] (J2 (X i*Y j)),PCall P 128 [J2 (sq4 i j),J2 (X i*Y j)] (J2 (sq4 i j*(X i*Y j))),2≤2,(0:Int)≤((i^^^j:Nat):Int)∧((i^^^j:Nat):Int)<4,
      PCall P 127 [J2 (C (i^^^j)),J2 (sq4 i j*(X i*Y j))] (J2 (C (i^^^j)+sq4 i j*(X i*Y j))),(0:Int)≤((i^^^j:Nat):Int)∧((i^^^j:Nat):Int)<4,(i^^^j)*2+2≤8,
      CvL (cl4 X),CvL (cl4 Y),CvL (cl4 (fun _=>0)),CvL (cl4 (zkG C (i^^^j) (C (i^^^j)+sq4 i j*(X i*Y j))))]):=by
 intro i j hi hj
 have hi':i=0∨i=1∨i=2∨i=3:=by omega
 have hj':j=0∨j=1∨j=2∨j=3:=by omega
 rcases hi' with rfl|rfl|rfl|rfl<;>rcases hj' with rfl|rfl|rfl|rfl<;>(show _=_;kernel_rfl)
theorem zsS: ∀i,i<4→(z3O P 130 (loopHead P 130 0) (zna X Y C i) [(5,.stop)] false 100000).pick [2,3,4,5,6,7] [0,1,2,3]=some (loopHead P 130 1,zfw X Y C i 0,[CvL (cl4 X),CvL (cl4 Y),CvL (cl4 (fun _=>0)),CvL (cl4 C)]):=by
 intro i hi
 have hi':i=0∨i=1∨i=2∨i=3:=by omega
 rcases hi' with rfl|rfl|rfl|rfl<;>(show _=_;kernel_rfl)
theorem zsQ: ∀i,i<4→(z3O P 130 (loopHead P 130 1) (zfw X Y C i 4) [(7,.stop)] false 100000).pick [2,3,4,5,6] [0,1,2,3]=some (loopHead P 130 0,zna X Y C (i+1),[CvL (cl4 X),CvL (cl4 Y),CvL (cl4 (fun _=>0)),CvL (cl4 C)]):=by
 intro i hi
 have hi':i=0∨i=1∨i=2∨i=3:=by omega
 rcases hi' with rfl|rfl|rfl|rfl<;>(show _=_;kernel_rfl)
theorem zsU:z3O P 130 (loopHead P 130 0) (zna X Y C 4) [] false 100000= .ret (c4C (C 0) (C 1) (C 2) (C 3)) [8≤8]:=by
 show _=_
 kernel_rfl
theorem ztd:(zcz P 130 [c4C (X 0) (X 1) (X 2) (X 3),c4C (Y 0) (Y 1) (Y 2) (Y 3)] [(5,.stop)] false 100000).pick [2,3,4,5,6] [0,1,2,3]=some (loopHead P 130 0,zna X Y (fun _=>0) 0,[CvL (cl4 X),CvL (cl4 Y),CvL (cl4 (fun _=>0)),CvL (cl4 (fun _=>0))]):=by
 show _=_
 kernel_rfl
end
end Go.Fw
