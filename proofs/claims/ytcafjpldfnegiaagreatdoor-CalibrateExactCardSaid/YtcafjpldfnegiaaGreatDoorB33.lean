/- A part of the proof that the law returns true for every input: an executor for the model's code, and what functions of the program compute. -/
import Derived.Test.YtcafjpldfnegiaaGreatDoorB11
import Derived.Test.YtcafjpldfnegiaaGreatDoorB15
import Derived.Test.YtcafjpldfnegiaaGreatDoorB27
import Derived.Test.YtcafjpldfnegiaaGreatDoorB32
import Derived.KernelRfl
open Go IntKind
namespace Go.Fw
set_option maxRecDepth 100000
theorem z4J{b:Bool}{s:ByteArray}(h:J1 b s=true):s=bytesOf (J5 s):=by
 have hs:=z3N s
 rw[←zc9]
 unfold J1 at h
 by_cases h0:s.size=0
 · have:z21 s=[]:=List.length_eq_zero_iff.1 (by rw[X6];exact h0)
   rw[this]at hs ⊢
   exact hs.symm
 · rw[if_neg h0,decide_eq_true_eq]at h
   have hne:z21 s≠[]:=by
    intro e
    have:=X6 s
    rw[e]at this
    exact h0 this.symm
   have hc:=X9 hne
   generalize (z21 s).take ((z21 s).length-1)=l at hc
   generalize hx:(z21 s).getD ((z21 s).length-1) 0=x at hc
   have hf:=z2I l x
   rw[←hc,hs]at hf
   rw[hf]at h
   have hx0:x≠0:=by rintro rfl;exact h rfl
   have:tz (z21 s)=z21 s:=by rw[hc];exact z0F hx0 l
   rw[this,hs]
theorem V9{b:Bool}{s:ByteArray}(h:J1 b s=true):s=bytesOf (J5 s)∧b=decide (zOf b s<0)∧(zOf b s).natAbs=J5 s:=by
 refine⟨z4J h,?_,?_⟩
 · cases b
   · simp only[zOf,Bool.false_eq_true,if_false]
     exact(decide_eq_false (by omega)).symm
   · have hz : J5 s ≠ 0 := by
       intro e
       have h1:=z4J h
       rw[e]at h1
       rw[h1]at h
       revert h
       decide
     simp only[zOf,if_true]
     exact(decide_eq_true (by omega)).symm
 · cases b<;>simp only[zOf,Bool.false_eq_true,if_false,if_true]<;>omega
theorem z2Q{b:Bool}{s:ByteArray}(h:J1 b s=true):CV.agg [.lit (.bool b),X2 s]=J7 (zOf b s):=by
 obtain⟨h1,h2,h3⟩:=V9 h
 unfold J7
 rw[←h2,h3,←h1]
theorem U9(z:Int)(b:Bool)(s:ByteArray)(hv:J1 b s=true)(hz:Sml z.natAbs)(hs:Sml (J5 s)):PCall P 184 [J7 z,.agg [.lit (.bool b),X2 s]] (J7 (Nat.gcd z.natAbs (zOf b s).natAbs:Nat)):=by
 rw[z2Q hv]
 exact zc3 z _ hz (by rw[(V9 hv).2.2];exact hs)
theorem z1A(b:Bool)(s:ByteArray)(hv:J1 b s=true)(hs:Sml (J5 s)):PCall P 184 [.agg [.lit (.bool false),X2 ⟨#[]⟩],.agg [.lit (.bool b),X2 s]] (J7 (Nat.gcd 0 (zOf b s).natAbs:Nat)):=
 U9 0 b s hv (by unfold Sml;decide) hs
theorem z73(b:Bool)(s:ByteArray)(hv:J1 b s=true):PCall P 183 [.agg [.lit (.bool b),X2 s]] (j7 (zOf b s).sign):=by
 rw[z2Q hv]
 exact Z3 _
def fB(b0 b1 b2 b3 b4:Bool):Nat→Bool
 |0=>b0
 |1=>b1
 |2=>b2
 |3=>b3
 |_=>b4
def fS(s0 s1 s2 s3 s4:ByteArray):Nat→ByteArray
 |0=>s0
 |1=>s1
 |2=>s2
 |3=>s3
 |_=>s4
abbrev r5(b0 b1 b2 b3 b4:Bool)(s0 s1 s2 s3 s4:ByteArray):CV:= .agg [.lit (.bool b0),X2 s0,.lit (.bool b1),X2 s1,.lit (.bool b2),X2 s2,.lit (.bool b3),X2 s3,.lit (.bool b4),X2 s4]
open Classical in
noncomputable def wdX(b0 b1 b2 b3 b4:Bool)(s0 s1 s2 s3 s4:ByteArray):Nat→Int:=
 if h: ∃W,PCall P 125 [r5 b0 b1 b2 b3 b4 s0 s1 s2 s3 s4] (wdV W false)then h.choose else fun _=>0
theorem z2S (b0 b1 b2 b3 b4 : Bool) (s0 s1 s2 s3 s4 : ByteArray) (h : ¬ ∀ i, i < 5 → z5G (fB b0 b1 b2 b3 b4) (fS s0 s1 s2 s3 s4) i) :
    PCall P 125 [r5 b0 b1 b2 b3 b4 s0 s1 s2 s3 s4] (wdV (wdX b0 b1 b2 b3 b4 s0 s1 s2 s3 s4) false):=by
 have h2: ∃W,PCall P 125 [r5 b0 b1 b2 b3 b4 s0 s1 s2 s3 s4] (wdV W false):=zb6 h
 unfold wdX
 rw[dif_pos h2]
 exact h2.choose_spec
theorem zcb (b0 b1 b2 b3 b4 : Bool) (s0 s1 s2 s3 s4 : ByteArray) (h : ∀ i, i < 5 → z5G (fB b0 b1 b2 b3 b4) (fS s0 s1 s2 s3 s4) i) :
    PCall P 125 [r5 b0 b1 b2 b3 b4 s0 s1 s2 s3 s4] (wdV (z3O (fB b0 b1 b2 b3 b4) (fS s0 s1 s2 s3 s4)) true):=zfs h
theorem znM(a b c d e:Int)(h:M5 a b c d e):PCall P 192 [.agg [j7 a,j7 b,j7 c,j7 d,j7 e]] (j7 (Y7 a b c d e:Nat)):=by
 have:=zf8 (f5 a b c d e) h.f5
 rw[znm]at this
 exact this
theorem zkD(b0 b1 b2 b3 b4:Bool)(s0 s1 s2 s3 s4:ByteArray)(h1:(J1 b0 s0)=true)(h2:(J1 b1 s1)=true)(h3:(J1 b2 s2)=true)(h4:(J1 b3 s3)=true)(h5:(J1 b4 s4)=true)(h6:decide ((zOf b4 s4).sign>0)=true)(a: ¬∀(i:Nat),i<5→z5G (fB b0 b1 b2 b3 b4) (fS s0 s1 s2 s3 s4) i)(d:Sml (J5 s0))(e:Sml (↑(Nat.gcd 0 (zOf b0 s0).natAbs):Int).natAbs)(f:Sml (J5 s1))(g:Sml (↑((↑(Nat.gcd 0 (zOf b0 s0).natAbs):Int).natAbs.gcd (zOf b1 s1).natAbs):Int).natAbs)(j:Sml (J5 s2))(k:Sml (↑((↑((↑(Nat.gcd 0 (zOf b0 s0).natAbs):Int).natAbs.gcd (zOf b1 s1).natAbs):Int).natAbs.gcd (zOf b2 s2).natAbs):Int).natAbs)(l:Sml (J5 s3))(m:Sml (↑((↑((↑((↑(Nat.gcd 0 (zOf b0 s0).natAbs):Int).natAbs.gcd (zOf b1 s1).natAbs):Int).natAbs.gcd (zOf b2 s2).natAbs):Int).natAbs.gcd (zOf b3 s3).natAbs):Int).natAbs)(n:Sml (J5 s4))(o:(-9223372036854775808:Int)≤1∧(1:Int)≤9223372036854775807):PCall P 124 [r5 b0 b1 b2 b3 b4 s0 s1 s2 s3 s4] (.lit (.bool (decide ((↑((↑((↑((↑((↑(Nat.gcd 0 (zOf b0 s0).natAbs):Int).natAbs.gcd (zOf b1 s1).natAbs):Int).natAbs.gcd (zOf b2 s2).natAbs):Int).natAbs.gcd (zOf b3 s3).natAbs):Int).natAbs.gcd (zOf b4 s4).natAbs):Int)<0)==false&&(bytesOf (↑((↑((↑((↑((↑(Nat.gcd 0 (zOf b0 s0).natAbs):Int).natAbs.gcd (zOf b1 s1).natAbs):Int).natAbs.gcd (zOf b2 s2).natAbs):Int).natAbs.gcd (zOf b3 s3).natAbs):Int).natAbs.gcd (zOf b4 s4).natAbs):Int).natAbs==bytesOf 1&&true)))):=
 j5 (.r 3 (z2S b0 b1 b2 b3 b4 s0 s1 s2 s3 s4 a) (.c (lq 5 5) (.c (lq 2 2) (.c (bq 0 4) (.r 24 ((J2 b0 s0).eqB h1) (.c (bq 0 4) (.r 32 (z1A b0 s0 h1 d) (.c (lq 2 2) (.c (bq 1 4) (.r 45 ((J2 b1 s1).eqB h2) (.c (bq 1 4) (.r 53 (U9 ((↑(Nat.gcd 0 (zOf b0 s0).natAbs):Int)) b1 s1 h2 e f) (.c (lq 2 2) (.c (bq 2 4) (.r 66 ((J2 b2 s2).eqB h3) (.c (bq 2 4) (.r 74 (U9 ((↑((↑(Nat.gcd 0 (zOf b0 s0).natAbs):Int).natAbs.gcd (zOf b1 s1).natAbs):Int)) b2 s2 h3 g j) (.c (lq 2 2) (.c (bq 3 4) (.r 87 ((J2 b3 s3).eqB h4) (.c (bq 3 4) (.r 95 (U9 ((↑((↑((↑(Nat.gcd 0 (zOf b0 s0).natAbs):Int).natAbs.gcd (zOf b1 s1).natAbs):Int).natAbs.gcd (zOf b2 s2).natAbs):Int)) b3 s3 h4 k l) (.c (lq 2 2) (.r 106 ((J2 b4 s4).eqB h5) (.r 110 (z73 b4 s4 h5) (.b 113 h6 (.r 117 (U9 ((↑((↑((↑((↑(Nat.gcd 0 (zOf b0 s0).natAbs):Int).natAbs.gcd (zOf b1 s1).natAbs):Int).natAbs.gcd (zOf b2 s2).natAbs):Int).natAbs.gcd (zOf b3 s3).natAbs):Int)) b4 s4 h5 m n) (.r 118 (z0J (1:Int) o) .nil)))))))))))))))))))))))))))) (by kernel_rfl)
theorem zlf(b0 b1 b2 b3 b4:Bool)(s0 s1 s2 s3 s4:ByteArray)(h1:(J1 b0 s0)=true)(h2:(J1 b1 s1)=true)(h3:(J1 b2 s2)=true)(h4:(J1 b3 s3)=true)(h5:(J1 b4 s4)=true)(h6:decide ((zOf b4 s4).sign>0)=false)(a: ¬∀(i:Nat),i<5→z5G (fB b0 b1 b2 b3 b4) (fS s0 s1 s2 s3 s4) i)(d:Sml (J5 s0))(e:Sml (↑(Nat.gcd 0 (zOf b0 s0).natAbs):Int).natAbs)(f:Sml (J5 s1))(g:Sml (↑((↑(Nat.gcd 0 (zOf b0 s0).natAbs):Int).natAbs.gcd (zOf b1 s1).natAbs):Int).natAbs)(j:Sml (J5 s2))(k:Sml (↑((↑((↑(Nat.gcd 0 (zOf b0 s0).natAbs):Int).natAbs.gcd (zOf b1 s1).natAbs):Int).natAbs.gcd (zOf b2 s2).natAbs):Int).natAbs)(l:Sml (J5 s3)):PCall P 124 [r5 b0 b1 b2 b3 b4 s0 s1 s2 s3 s4] (.lit (.bool false)):=
 j5 (.r 3 (z2S b0 b1 b2 b3 b4 s0 s1 s2 s3 s4 a) (.c (lq 5 5) (.c (lq 2 2) (.c (bq 0 4) (.r 24 ((J2 b0 s0).eqB h1) (.c (bq 0 4) (.r 32 (z1A b0 s0 h1 d) (.c (lq 2 2) (.c (bq 1 4) (.r 45 ((J2 b1 s1).eqB h2) (.c (bq 1 4) (.r 53 (U9 ((↑(Nat.gcd 0 (zOf b0 s0).natAbs):Int)) b1 s1 h2 e f) (.c (lq 2 2) (.c (bq 2 4) (.r 66 ((J2 b2 s2).eqB h3) (.c (bq 2 4) (.r 74 (U9 ((↑((↑(Nat.gcd 0 (zOf b0 s0).natAbs):Int).natAbs.gcd (zOf b1 s1).natAbs):Int)) b2 s2 h3 g j) (.c (lq 2 2) (.c (bq 3 4) (.r 87 ((J2 b3 s3).eqB h4) (.c (bq 3 4) (.r 95 (U9 ((↑((↑((↑(Nat.gcd 0 (zOf b0 s0).natAbs):Int).natAbs.gcd (zOf b1 s1).natAbs):Int).natAbs.gcd (zOf b2 s2).natAbs):Int)) b3 s3 h4 k l) (.c (lq 2 2) (.r 106 ((J2 b4 s4).eqB h5) (.r 110 (z73 b4 s4 h5) (.b 113 h6 .nil)))))))))))))))))))))))))) (by kernel_rfl)
theorem zlR(b0 b1 b2 b3 b4:Bool)(s0 s1 s2 s3 s4:ByteArray)(h1:(J1 b0 s0)=true)(h2:(J1 b1 s1)=true)(h3:(J1 b2 s2)=true)(h4:(J1 b3 s3)=true)(h5:(J1 b4 s4)=false)(a: ¬∀(i:Nat),i<5→z5G (fB b0 b1 b2 b3 b4) (fS s0 s1 s2 s3 s4) i)(d:Sml (J5 s0))(e:Sml (↑(Nat.gcd 0 (zOf b0 s0).natAbs):Int).natAbs)(f:Sml (J5 s1))(g:Sml (↑((↑(Nat.gcd 0 (zOf b0 s0).natAbs):Int).natAbs.gcd (zOf b1 s1).natAbs):Int).natAbs)(j:Sml (J5 s2))(k:Sml (↑((↑((↑(Nat.gcd 0 (zOf b0 s0).natAbs):Int).natAbs.gcd (zOf b1 s1).natAbs):Int).natAbs.gcd (zOf b2 s2).natAbs):Int).natAbs)(l:Sml (J5 s3)):PCall P 124 [r5 b0 b1 b2 b3 b4 s0 s1 s2 s3 s4] (.lit (.bool false)):=
 j5 (.r 3 (z2S b0 b1 b2 b3 b4 s0 s1 s2 s3 s4 a) (.c (lq 5 5) (.c (lq 2 2) (.c (bq 0 4) (.r 24 ((J2 b0 s0).eqB h1) (.c (bq 0 4) (.r 32 (z1A b0 s0 h1 d) (.c (lq 2 2) (.c (bq 1 4) (.r 45 ((J2 b1 s1).eqB h2) (.c (bq 1 4) (.r 53 (U9 ((↑(Nat.gcd 0 (zOf b0 s0).natAbs):Int)) b1 s1 h2 e f) (.c (lq 2 2) (.c (bq 2 4) (.r 66 ((J2 b2 s2).eqB h3) (.c (bq 2 4) (.r 74 (U9 ((↑((↑(Nat.gcd 0 (zOf b0 s0).natAbs):Int).natAbs.gcd (zOf b1 s1).natAbs):Int)) b2 s2 h3 g j) (.c (lq 2 2) (.c (bq 3 4) (.r 87 ((J2 b3 s3).eqB h4) (.c (bq 3 4) (.r 95 (U9 ((↑((↑((↑(Nat.gcd 0 (zOf b0 s0).natAbs):Int).natAbs.gcd (zOf b1 s1).natAbs):Int).natAbs.gcd (zOf b2 s2).natAbs):Int)) b3 s3 h4 k l) (.c (lq 2 2) (.r 106 ((J2 b4 s4).eqB h5) .nil)))))))))))))))))))))))) (by kernel_rfl)
theorem zmG(b0 b1 b2 b3 b4:Bool)(s0 s1 s2 s3 s4:ByteArray)(h1:(J1 b0 s0)=true)(h2:(J1 b1 s1)=true)(h3:(J1 b2 s2)=true)(h4:(J1 b3 s3)=false)(a: ¬∀(i:Nat),i<5→z5G (fB b0 b1 b2 b3 b4) (fS s0 s1 s2 s3 s4) i)(d:Sml (J5 s0))(e:Sml (↑(Nat.gcd 0 (zOf b0 s0).natAbs):Int).natAbs)(f:Sml (J5 s1))(g:Sml (↑((↑(Nat.gcd 0 (zOf b0 s0).natAbs):Int).natAbs.gcd (zOf b1 s1).natAbs):Int).natAbs)(j:Sml (J5 s2)):PCall P 124 [r5 b0 b1 b2 b3 b4 s0 s1 s2 s3 s4] (.lit (.bool false)):=
 j5 (.r 3 (z2S b0 b1 b2 b3 b4 s0 s1 s2 s3 s4 a) (.c (lq 5 5) (.c (lq 2 2) (.c (bq 0 4) (.r 24 ((J2 b0 s0).eqB h1) (.c (bq 0 4) (.r 32 (z1A b0 s0 h1 d) (.c (lq 2 2) (.c (bq 1 4) (.r 45 ((J2 b1 s1).eqB h2) (.c (bq 1 4) (.r 53 (U9 ((↑(Nat.gcd 0 (zOf b0 s0).natAbs):Int)) b1 s1 h2 e f) (.c (lq 2 2) (.c (bq 2 4) (.r 66 ((J2 b2 s2).eqB h3) (.c (bq 2 4) (.r 74 (U9 ((↑((↑(Nat.gcd 0 (zOf b0 s0).natAbs):Int).natAbs.gcd (zOf b1 s1).natAbs):Int)) b2 s2 h3 g j) (.c (lq 2 2) (.c (bq 3 4) (.r 87 ((J2 b3 s3).eqB h4) .nil)))))))))))))))))))) (by kernel_rfl)
theorem zm5(b0 b1 b2 b3 b4:Bool)(s0 s1 s2 s3 s4:ByteArray)(h1:(J1 b0 s0)=true)(h2:(J1 b1 s1)=true)(h3:(J1 b2 s2)=false)(a: ¬∀(i:Nat),i<5→z5G (fB b0 b1 b2 b3 b4) (fS s0 s1 s2 s3 s4) i)(d:Sml (J5 s0))(e:Sml (↑(Nat.gcd 0 (zOf b0 s0).natAbs):Int).natAbs)(f:Sml (J5 s1)):PCall P 124 [r5 b0 b1 b2 b3 b4 s0 s1 s2 s3 s4] (.lit (.bool false)):=
 j5 (.r 3 (z2S b0 b1 b2 b3 b4 s0 s1 s2 s3 s4 a) (.c (lq 5 5) (.c (lq 2 2) (.c (bq 0 4) (.r 24 ((J2 b0 s0).eqB h1) (.c (bq 0 4) (.r 32 (z1A b0 s0 h1 d) (.c (lq 2 2) (.c (bq 1 4) (.r 45 ((J2 b1 s1).eqB h2) (.c (bq 1 4) (.r 53 (U9 ((↑(Nat.gcd 0 (zOf b0 s0).natAbs):Int)) b1 s1 h2 e f) (.c (lq 2 2) (.c (bq 2 4) (.r 66 ((J2 b2 s2).eqB h3) .nil))))))))))))))) (by kernel_rfl)
theorem zmb(b0 b1 b2 b3 b4:Bool)(s0 s1 s2 s3 s4:ByteArray)(h1:(J1 b0 s0)=true)(h2:(J1 b1 s1)=false)(a: ¬∀(i:Nat),i<5→z5G (fB b0 b1 b2 b3 b4) (fS s0 s1 s2 s3 s4) i)(d:Sml (J5 s0)):PCall P 124 [r5 b0 b1 b2 b3 b4 s0 s1 s2 s3 s4] (.lit (.bool false)):=
 j5 (.r 3 (z2S b0 b1 b2 b3 b4 s0 s1 s2 s3 s4 a) (.c (lq 5 5) (.c (lq 2 2) (.c (bq 0 4) (.r 24 ((J2 b0 s0).eqB h1) (.c (bq 0 4) (.r 32 (z1A b0 s0 h1 d) (.c (lq 2 2) (.c (bq 1 4) (.r 45 ((J2 b1 s1).eqB h2) .nil)))))))))) (by kernel_rfl)
theorem zn4(b0 b1 b2 b3 b4:Bool)(s0 s1 s2 s3 s4:ByteArray)(h1:(J1 b0 s0)=false)(a: ¬∀(i:Nat),i<5→z5G (fB b0 b1 b2 b3 b4) (fS s0 s1 s2 s3 s4) i):PCall P 124 [r5 b0 b1 b2 b3 b4 s0 s1 s2 s3 s4] (.lit (.bool false)):=
 j5 (.r 3 (z2S b0 b1 b2 b3 b4 s0 s1 s2 s3 s4 a) (.c (lq 5 5) (.c (lq 2 2) (.c (bq 0 4) (.r 24 ((J2 b0 s0).eqB h1) .nil))))) (by kernel_rfl)
theorem zlq(b0 b1 b2 b3 b4:Bool)(s0 s1 s2 s3 s4:ByteArray)(h1:decide (z3O (fB b0 b1 b2 b3 b4) (fS s0 s1 s2 s3 s4) 4>0)=true)(a: ∀(i:Nat),i<5→z5G (fB b0 b1 b2 b3 b4) (fS s0 s1 s2 s3 s4) i)(d:M5 (z3O (fB b0 b1 b2 b3 b4) (fS s0 s1 s2 s3 s4) 0) (z3O (fB b0 b1 b2 b3 b4) (fS s0 s1 s2 s3 s4) 1) (z3O (fB b0 b1 b2 b3 b4) (fS s0 s1 s2 s3 s4) 2) (z3O (fB b0 b1 b2 b3 b4) (fS s0 s1 s2 s3 s4) 3) (z3O (fB b0 b1 b2 b3 b4) (fS s0 s1 s2 s3 s4) 4)):PCall P 124 [r5 b0 b1 b2 b3 b4 s0 s1 s2 s3 s4] (.lit (.bool ((↑(Y7 (z3O (fB b0 b1 b2 b3 b4) (fS s0 s1 s2 s3 s4) 0) (z3O (fB b0 b1 b2 b3 b4) (fS s0 s1 s2 s3 s4) 1) (z3O (fB b0 b1 b2 b3 b4) (fS s0 s1 s2 s3 s4) 2) (z3O (fB b0 b1 b2 b3 b4) (fS s0 s1 s2 s3 s4) 3) (z3O (fB b0 b1 b2 b3 b4) (fS s0 s1 s2 s3 s4) 4)):Int)==1))):=
 j5 (.r 3 (zcb b0 b1 b2 b3 b4 s0 s1 s2 s3 s4 a) (.c (lq 5 5) (.c (bq 4 5) (.b 15 h1 (.r 17 (znM (z3O (fB b0 b1 b2 b3 b4) (fS s0 s1 s2 s3 s4) 0) (z3O (fB b0 b1 b2 b3 b4) (fS s0 s1 s2 s3 s4) 1) (z3O (fB b0 b1 b2 b3 b4) (fS s0 s1 s2 s3 s4) 2) (z3O (fB b0 b1 b2 b3 b4) (fS s0 s1 s2 s3 s4) 3) (z3O (fB b0 b1 b2 b3 b4) (fS s0 s1 s2 s3 s4) 4) d) .nil))))) (by kernel_rfl)
theorem zm3(b0 b1 b2 b3 b4:Bool)(s0 s1 s2 s3 s4:ByteArray)(h1:decide (z3O (fB b0 b1 b2 b3 b4) (fS s0 s1 s2 s3 s4) 4>0)=false)(a: ∀(i:Nat),i<5→z5G (fB b0 b1 b2 b3 b4) (fS s0 s1 s2 s3 s4) i):PCall P 124 [r5 b0 b1 b2 b3 b4 s0 s1 s2 s3 s4] (.lit (.bool false)):=
 j5 (.r 3 (zcb b0 b1 b2 b3 b4 s0 s1 s2 s3 s4 a) (.c (lq 5 5) (.c (bq 4 5) (.b 15 h1 .nil)))) (by kernel_rfl)
theorem zm1(b0 b1 b2 b3 b4:Bool)(s0 s1 s2 s3 s4:ByteArray)(h1:(J1 b0 s0)=true)(h2:(J1 b1 s1)=true)(h3:(J1 b2 s2)=true)(h4:(J1 b3 s3)=true)(h5:(J1 b4 s4)=false):PCall P 154 [r5 b0 b1 b2 b3 b4 s0 s1 s2 s3 s4] (.lit (.bool false)):=
 j5 (.c (bq 0 4) (.c (lq 2 2) (.r 12 ((Y4 b0 s0).eqB h1) (.c (bq 1 4) (.c (lq 2 2) (.r 24 ((Y4 b1 s1).eqB h2) (.c (bq 2 4) (.c (lq 2 2) (.r 36 ((Y4 b2 s2).eqB h3) (.c (bq 3 4) (.c (lq 2 2) (.r 48 ((Y4 b3 s3).eqB h4) (.r 58 ((Y4 b4 s4).eqB h5) .nil))))))))))))) (by kernel_rfl)
theorem zkv(b0 b1 b2 b3 b4:Bool)(s0 s1 s2 s3 s4:ByteArray)(h1:(J1 b0 s0)=true)(h2:(J1 b1 s1)=true)(h3:(J1 b2 s2)=true)(h4:(J1 b3 s3)=false):PCall P 154 [r5 b0 b1 b2 b3 b4 s0 s1 s2 s3 s4] (.lit (.bool false)):=
 j5 (.c (bq 0 4) (.c (lq 2 2) (.r 12 ((Y4 b0 s0).eqB h1) (.c (bq 1 4) (.c (lq 2 2) (.r 24 ((Y4 b1 s1).eqB h2) (.c (bq 2 4) (.c (lq 2 2) (.r 36 ((Y4 b2 s2).eqB h3) (.c (bq 3 4) (.c (lq 2 2) (.r 48 ((Y4 b3 s3).eqB h4) .nil)))))))))))) (by kernel_rfl)
theorem zlA(b0 b1 b2 b3 b4:Bool)(s0 s1 s2 s3 s4:ByteArray)(h1:(J1 b0 s0)=true)(h2:(J1 b1 s1)=true)(h3:(J1 b2 s2)=false):PCall P 154 [r5 b0 b1 b2 b3 b4 s0 s1 s2 s3 s4] (.lit (.bool false)):=
 j5 (.c (bq 0 4) (.c (lq 2 2) (.r 12 ((Y4 b0 s0).eqB h1) (.c (bq 1 4) (.c (lq 2 2) (.r 24 ((Y4 b1 s1).eqB h2) (.c (bq 2 4) (.c (lq 2 2) (.r 36 ((Y4 b2 s2).eqB h3) .nil))))))))) (by kernel_rfl)
theorem zkG(b0 b1 b2 b3 b4:Bool)(s0 s1 s2 s3 s4:ByteArray)(h1:(J1 b0 s0)=true)(h2:(J1 b1 s1)=false):PCall P 154 [r5 b0 b1 b2 b3 b4 s0 s1 s2 s3 s4] (.lit (.bool false)):=
 j5 (.c (bq 0 4) (.c (lq 2 2) (.r 12 ((Y4 b0 s0).eqB h1) (.c (bq 1 4) (.c (lq 2 2) (.r 24 ((Y4 b1 s1).eqB h2) .nil)))))) (by kernel_rfl)
theorem zmV(b0 b1 b2 b3 b4:Bool)(s0 s1 s2 s3 s4:ByteArray)(h1:(J1 b0 s0)=false):PCall P 154 [r5 b0 b1 b2 b3 b4 s0 s1 s2 s3 s4] (.lit (.bool false)):=
 j5 (.c (bq 0 4) (.c (lq 2 2) (.r 12 ((Y4 b0 s0).eqB h1) .nil))) (by kernel_rfl)
theorem zf5(a b:Int)(d:SmlZ a)(e:SmlZ b)(f:b≠0)(g:b∣a):PCall P 244 [J7 a,J7 b] (.agg [.lit (.bool (decide (a/b<0))),.lit (.string (bytesOf (a/b).natAbs))]):=
 j5 (.r 5 (zfg a b d e f g) (.c (lq 2 2) (.c (lq 2 2) (.c (lq 2 2) .nil)))) (by kernel_rfl)
theorem z08(a b:Int)(ha:SmlZ a)(hb:SmlZ b)(hb0:b≠0)(hd:b∣a):PCall P 244 [J7 a,J7 b] (J7 (a/b)):=zf5 a b ha hb hb0 hd
theorem zmU(a b c d e:Int)(h1:(decide (e.sign<0))=true)(h2:(decide (-(↑(Y7 a b c d e):Int)<0)==false&&(bytesOf (-(↑(Y7 a b c d e):Int)).natAbs==bytesOf 1&&true))=false)(f:SmlZ a)(g:SmlZ b)(i:SmlZ c)(j:SmlZ d)(k:SmlZ e)(l:(-9223372036854775808:Int)≤1∧(1:Int)≤9223372036854775807)(m:SmlZ a)(n:SmlZ (-(↑(Y7 a b c d e):Int)))(o: -(↑(Y7 a b c d e):Int)≠0)(p: -(↑(Y7 a b c d e):Int)∣a)(q:SmlZ b)(s:SmlZ (-(↑(Y7 a b c d e):Int)))(t: -(↑(Y7 a b c d e):Int)≠0)(u: -(↑(Y7 a b c d e):Int)∣b)(v:SmlZ c)(w:SmlZ (-(↑(Y7 a b c d e):Int)))(x: -(↑(Y7 a b c d e):Int)≠0)(y: -(↑(Y7 a b c d e):Int)∣c)(z:SmlZ d)(a0:SmlZ (-(↑(Y7 a b c d e):Int)))(a1: -(↑(Y7 a b c d e):Int)≠0)(a2: -(↑(Y7 a b c d e):Int)∣d)(a3:SmlZ e)(a4:SmlZ (-(↑(Y7 a b c d e):Int)))(a5: -(↑(Y7 a b c d e):Int)≠0)(a6: -(↑(Y7 a b c d e):Int)∣e):PCall P 204 [c4C a b c d,J7 e] (.agg [.lit (.bool (decide (a/ -(↑(Y7 a b c d e):Int)<0))),.lit (.string (bytesOf (a/ -(↑(Y7 a b c d e):Int)).natAbs)),.lit (.bool (decide (b/ -(↑(Y7 a b c d e):Int)<0))),.lit (.string (bytesOf (b/ -(↑(Y7 a b c d e):Int)).natAbs)),.lit (.bool (decide (c/ -(↑(Y7 a b c d e):Int)<0))),.lit (.string (bytesOf (c/ -(↑(Y7 a b c d e):Int)).natAbs)),.lit (.bool (decide (d/ -(↑(Y7 a b c d e):Int)<0))),.lit (.string (bytesOf (d/ -(↑(Y7 a b c d e):Int)).natAbs)),.lit (.bool (decide (e/ -(↑(Y7 a b c d e):Int)<0))),.lit (.string (bytesOf (e/ -(↑(Y7 a b c d e):Int)).natAbs))]):=
 j5 (.r 5 (z1U a b c d e f g i j k) (.c (lq 2 2) (.r 9 (z0E e) (.b 11 h1 (.r 13 (z0z ((↑(Y7 a b c d e):Int))) (.c (lq 2 2) (.r 16 (z0U (1:Int) l) (.b 18 h2 (.c (bq 0 4) (.r 30 (z08 a (-(↑(Y7 a b c d e):Int)) m n o p) (.c (bq 0 4) (.c (lq 2 8) (.c (bq 1 4) (.r 45 (z08 b (-(↑(Y7 a b c d e):Int)) q s t u) (.c (bq 1 4) (.c (lq 4 8) (.c (bq 2 4) (.r 60 (z08 c (-(↑(Y7 a b c d e):Int)) v w x y) (.c (bq 2 4) (.c (lq 6 8) (.c (bq 3 4) (.r 75 (z08 d (-(↑(Y7 a b c d e):Int)) z a0 a1 a2) (.c (bq 3 4) (.c (lq 8 8) (.r 86 (z08 e (-(↑(Y7 a b c d e):Int)) a3 a4 a5 a6) (.c (lq 10 10) .nil)))))))))))))))))))))))))) (by kernel_rfl)
theorem zk3(a b c d e:Int)(h1:(decide (e.sign<0))=false)(h2:(decide ((↑(Y7 a b c d e):Int)<0)==false&&(bytesOf (↑(Y7 a b c d e):Int).natAbs==bytesOf 1&&true))=true)(f:SmlZ a)(g:SmlZ b)(i:SmlZ c)(j:SmlZ d)(k:SmlZ e)(l:(-9223372036854775808:Int)≤1∧(1:Int)≤9223372036854775807):PCall P 204 [c4C a b c d,J7 e] (.agg [.lit (.bool (decide (a<0))),.lit (.string (bytesOf a.natAbs)),.lit (.bool (decide (b<0))),.lit (.string (bytesOf b.natAbs)),.lit (.bool (decide (c<0))),.lit (.string (bytesOf c.natAbs)),.lit (.bool (decide (d<0))),.lit (.string (bytesOf d.natAbs)),.lit (.bool (decide (e<0))),.lit (.string (bytesOf e.natAbs))]):=
 j5 (.r 5 (z1U a b c d e f g i j k) (.c (lq 2 2) (.r 9 (z0E e) (.b 11 h1 (.r 13 (z0U (1:Int) l) (.b 15 h2 (.c (lq 10 10) .nil))))))) (by kernel_rfl)
theorem zmh(a b c d e:Int)(h1:(decide (e.sign<0))=false)(h2:(decide ((↑(Y7 a b c d e):Int)<0)==false&&(bytesOf (↑(Y7 a b c d e):Int).natAbs==bytesOf 1&&true))=false)(f:SmlZ a)(g:SmlZ b)(i:SmlZ c)(j:SmlZ d)(k:SmlZ e)(l:(-9223372036854775808:Int)≤1∧(1:Int)≤9223372036854775807)(m:SmlZ a)(n:SmlZ (↑(Y7 a b c d e):Int))(o:(↑(Y7 a b c d e):Int)≠0)(p:(↑(Y7 a b c d e):Int)∣a)(q:SmlZ b)(s:SmlZ (↑(Y7 a b c d e):Int))(t:(↑(Y7 a b c d e):Int)≠0)(u:(↑(Y7 a b c d e):Int)∣b)(v:SmlZ c)(w:SmlZ (↑(Y7 a b c d e):Int))(x:(↑(Y7 a b c d e):Int)≠0)(y:(↑(Y7 a b c d e):Int)∣c)(z:SmlZ d)(a0:SmlZ (↑(Y7 a b c d e):Int))(a1:(↑(Y7 a b c d e):Int)≠0)(a2:(↑(Y7 a b c d e):Int)∣d)(a3:SmlZ e)(a4:SmlZ (↑(Y7 a b c d e):Int))(a5:(↑(Y7 a b c d e):Int)≠0)(a6:(↑(Y7 a b c d e):Int)∣e):PCall P 204 [c4C a b c d,J7 e] (.agg [.lit (.bool (decide (a/(↑(Y7 a b c d e):Int)<0))),.lit (.string (bytesOf (a/(↑(Y7 a b c d e):Int)).natAbs)),.lit (.bool (decide (b/(↑(Y7 a b c d e):Int)<0))),.lit (.string (bytesOf (b/(↑(Y7 a b c d e):Int)).natAbs)),.lit (.bool (decide (c/(↑(Y7 a b c d e):Int)<0))),.lit (.string (bytesOf (c/(↑(Y7 a b c d e):Int)).natAbs)),.lit (.bool (decide (d/(↑(Y7 a b c d e):Int)<0))),.lit (.string (bytesOf (d/(↑(Y7 a b c d e):Int)).natAbs)),.lit (.bool (decide (e/(↑(Y7 a b c d e):Int)<0))),.lit (.string (bytesOf (e/(↑(Y7 a b c d e):Int)).natAbs))]):=
 j5 (.r 5 (z1U a b c d e f g i j k) (.c (lq 2 2) (.r 9 (z0E e) (.b 11 h1 (.r 13 (z0U (1:Int) l) (.b 15 h2 (.c (bq 0 4) (.r 27 (z08 a ((↑(Y7 a b c d e):Int)) m n o p) (.c (bq 0 4) (.c (lq 2 8) (.c (bq 1 4) (.r 42 (z08 b ((↑(Y7 a b c d e):Int)) q s t u) (.c (bq 1 4) (.c (lq 4 8) (.c (bq 2 4) (.r 57 (z08 c ((↑(Y7 a b c d e):Int)) v w x y) (.c (bq 2 4) (.c (lq 6 8) (.c (bq 3 4) (.r 72 (z08 d ((↑(Y7 a b c d e):Int)) z a0 a1 a2) (.c (bq 3 4) (.c (lq 8 8) (.r 83 (z08 e ((↑(Y7 a b c d e):Int)) a3 a4 a5 a6) (.c (lq 10 10) .nil)))))))))))))))))))))))) (by kernel_rfl)
theorem zfU(x y:ByteArray):(x==y)=decide (x=y):=by
 cases x with|mk a=>cases y with|mk b=>
 have:((⟨a⟩:ByteArray)==⟨b⟩)=(a==b):=rfl
 rw[this]
 by_cases h:a=b
 · subst h;simp
 · simp[h]
theorem z23(m n:Nat):(bytesOf m==bytesOf n)=decide (m=n):=by
 rw[zfU]
 exact decide_eq_decide.2 ⟨z5c,fun h=>by rw[h]⟩
theorem SmlZ.neg{a:Int}(h:SmlZ a):SmlZ (-a):=by simpa[SmlZ]using h
theorem z6u(a b c d e:Int)(h0:SmlZ a)(h1:SmlZ b)(h2:SmlZ c)(h3:SmlZ d)(h4:SmlZ e)(he:e≠0):PCall P 204 [c4C a b c d,J7 e] (Y6 (K.of a b c d e)):=by
 have hg:=z4s (a:=a) (b:=b) (c:=c) (d:=d) he
 have hgs:SmlZ (Y7 a b c d e:Nat):=by
  have g1:Sml (Nat.gcd e.natAbs a.natAbs):=Sml.gcd h4 h0
  have g2:=Sml.gcd (Sml.gcd (Sml.gcd g1 h1) h2) h3
  simpa[SmlZ,Y7]using g2
 obtain⟨d0,d1,d2,d3,d4⟩:=K.den_dvd a b c d e
 have hone:(-9223372036854775808:Int)≤1∧(1:Int)≤9223372036854775807:=by decide
 by_cases hn:e<0
 · have hden:K.den a b c d e= -(Y7 a b c d e:Int):=by unfold K.den;rw[if_pos hn]
   rw[hden]at d0 d1 d2 d3 d4
   have hs:(decide (e.sign<0))=true:=by rw[Int.sign_eq_neg_one_of_neg hn];rfl
   have hne: -(Y7 a b c d e:Int)≠0:=by omega
   have ht:(decide (-(Y7 a b c d e:Int)<0)==false&&(bytesOf (-(Y7 a b c d e:Int)).natAbs==bytesOf 1&&true))=false:=by
    rw[decide_eq_true (by omega)];rfl
   refine(zmU a b c d e hs ht h0 h1 h2 h3 h4 hone h0 hgs.neg hne d0 h1 hgs.neg hne d1 h2 hgs.neg hne d2 h3 hgs.neg hne d3 h4 hgs.neg hne d4).eq ?_
   unfold K.of
   simp only[dif_neg he,hden]
   rfl
 · have hden:K.den a b c d e=(Y7 a b c d e:Int):=by unfold K.den;rw[if_neg hn]
   rw[hden]at d0 d1 d2 d3 d4
   have hs:(decide (e.sign<0))=false:=by rw[Int.sign_eq_one_of_pos (by omega)];rfl
   have hne:(Y7 a b c d e:Int)≠0:=by omega
   have ht:(decide ((Y7 a b c d e:Int)<0)==false&&(bytesOf (Y7 a b c d e:Int).natAbs==bytesOf 1&&true))=decide (Y7 a b c d e=1):=by
    rw[decide_eq_false (by omega),Int.natAbs_natCast,z23];simp
   by_cases h1':Y7 a b c d e=1
   · refine(zk3 a b c d e hs (by rw[ht];simpa using h1') h0 h1 h2 h3 h4 hone).eq ?_
     unfold K.of
     simp only[dif_neg he,hden,h1']
     exact zg1 (by simp) (by simp) (by simp) (by simp) (by simp)
   · refine(zmh a b c d e hs (by rw[ht];simpa using h1') h0 h1 h2 h3 h4 hone h0 hgs hne d0 h1 hgs hne d1 h2 hgs hne d2 h3 hgs hne d3 h4 hgs hne d4).eq ?_
     unfold K.of
     simp only[dif_neg he,hden]
     rfl
theorem z6W(a b c d e:Int)(h1:decide (e.sign>0)=true)(f:SmlZ a)(g:SmlZ b)(i:SmlZ c)(j:SmlZ d)(k:SmlZ e)(l:(-9223372036854775808:Int)≤1∧(1:Int)≤9223372036854775807):PCall P 154 [n5C a b c d e] (.lit (.bool (decide ((↑(Y7 a b c d e):Int)<0)==false&&(bytesOf (↑(Y7 a b c d e):Int).natAbs==bytesOf 1&&true)))):=
 j5 (.c (bq 0 4) (.c (lq 2 2) (.r 12 (Q3 a) (.c (bq 1 4) (.c (lq 2 2) (.r 24 (Q3 b) (.c (bq 2 4) (.c (lq 2 2) (.r 36 (Q3 c) (.c (bq 3 4) (.c (lq 2 2) (.r 48 (Q3 d) (.r 58 (Q3 e) (.r 62 (z0E e) (.b 65 h1 (.r 70 (z1U a b c d e f g i j k) (.r 71 (z0U (1:Int) l) .nil))))))))))))))))) (by kernel_rfl)
theorem zcm(a b c d e:Int)(h1:decide (e.sign>0)=false):PCall P 154 [n5C a b c d e] (.lit (.bool false)):=
 j5 (.c (bq 0 4) (.c (lq 2 2) (.r 12 (Q3 a) (.c (bq 1 4) (.c (lq 2 2) (.r 24 (Q3 b) (.c (bq 2 4) (.c (lq 2 2) (.r 36 (Q3 c) (.c (bq 3 4) (.c (lq 2 2) (.r 48 (Q3 d) (.r 58 (Q3 e) (.r 62 (z0E e) (.b 65 h1 .nil))))))))))))))) (by kernel_rfl)
theorem zdt(k:Int)(h1:(k==2)=true)(a:(-9223372036854775808:Int)≤0∧(0:Int)≤9223372036854775807)(d:(-9223372036854775808:Int)≤1∧(1:Int)≤9223372036854775807):PCall P 235 [.lit (.int .i64 k)] (.agg [.lit (.bool false),.lit (.string (bytesOf 0)),.lit (.bool false),.lit (.string (bytesOf 1)),.lit (.bool false),.lit (.string (bytesOf 0)),.lit (.bool false),.lit (.string (bytesOf 0)),.lit (.bool false),.lit (.string (bytesOf 1))]):=
 j5 (.r 1 (z0d (0:Int) a) (.c (lq 10 10) (.b 7 h1 (.r 8 (z0U (1:Int) d) (.c (bq 1 4) (.c (lq 4 10) (.c (lq 10 10) .nil))))))) (by kernel_rfl)
theorem zf6(k:Int)(h1:(k==2)=false)(h2:(k==3)=true)(a:(-9223372036854775808:Int)≤0∧(0:Int)≤9223372036854775807)(d:(-9223372036854775808:Int)≤1∧(1:Int)≤9223372036854775807):PCall P 235 [.lit (.int .i64 k)] (.agg [.lit (.bool false),.lit (.string (bytesOf 0)),.lit (.bool false),.lit (.string (bytesOf 0)),.lit (.bool false),.lit (.string (bytesOf 1)),.lit (.bool false),.lit (.string (bytesOf 0)),.lit (.bool false),.lit (.string (bytesOf 1))]):=
 j5 (.r 1 (z0d (0:Int) a) (.c (lq 10 10) (.b 7 h1 (.b 10 h2 (.r 11 (z0U (1:Int) d) (.c (bq 2 4) (.c (lq 6 10) (.c (lq 10 10) .nil)))))))) (by kernel_rfl)
theorem zdV(k:Int)(h1:(k==2)=false)(h2:(k==3)=false)(h3:(k==6)=true)(a:(-9223372036854775808:Int)≤0∧(0:Int)≤9223372036854775807)(d:(-9223372036854775808:Int)≤1∧(1:Int)≤9223372036854775807):PCall P 235 [.lit (.int .i64 k)] (.agg [.lit (.bool false),.lit (.string (bytesOf 0)),.lit (.bool false),.lit (.string (bytesOf 0)),.lit (.bool false),.lit (.string (bytesOf 0)),.lit (.bool false),.lit (.string (bytesOf 1)),.lit (.bool false),.lit (.string (bytesOf 1))]):=
 j5 (.r 1 (z0d (0:Int) a) (.c (lq 10 10) (.b 7 h1 (.b 10 h2 (.b 13 h3 (.r 14 (z0U (1:Int) d) (.c (bq 3 4) (.c (lq 8 10) (.c (lq 10 10) .nil))))))))) (by kernel_rfl)
theorem zb4(a b c d e:Int):PCall P 211 [n5C a b c d e,.lit (.int .i64 1)] (.agg [.lit (.bool (decide (a<0))),.lit (.string (bytesOf a.natAbs)),.lit (.bool (decide (-b<0))),.lit (.string (bytesOf (-b).natAbs)),.lit (.bool (decide (c<0))),.lit (.string (bytesOf c.natAbs)),.lit (.bool (decide (-d<0))),.lit (.string (bytesOf (-d).natAbs)),.lit (.bool (decide (e<0))),.lit (.string (bytesOf e.natAbs))]):=
 j5 (.c (bq 1 4) (.r 30 (z0z b) (.c (bq 1 4) (.c (lq 4 10) (.c (bq 3 4) (.r 63 (z0z d) (.c (bq 3 4) (.c (lq 8 10) (.c (lq 10 10) .nil))))))))) (by kernel_rfl)
theorem zaS(a b c d e:Int):PCall P 211 [n5C a b c d e,.lit (.int .i64 2)] (.agg [.lit (.bool (decide (a<0))),.lit (.string (bytesOf a.natAbs)),.lit (.bool (decide (b<0))),.lit (.string (bytesOf b.natAbs)),.lit (.bool (decide (-c<0))),.lit (.string (bytesOf (-c).natAbs)),.lit (.bool (decide (-d<0))),.lit (.string (bytesOf (-d).natAbs)),.lit (.bool (decide (e<0))),.lit (.string (bytesOf e.natAbs))]):=
 j5 (.c (bq 2 4) (.r 42 (z0z c) (.c (bq 2 4) (.c (lq 6 10) (.c (bq 3 4) (.r 63 (z0z d) (.c (bq 3 4) (.c (lq 8 10) (.c (lq 10 10) .nil))))))))) (by kernel_rfl)
end Go.Fw
