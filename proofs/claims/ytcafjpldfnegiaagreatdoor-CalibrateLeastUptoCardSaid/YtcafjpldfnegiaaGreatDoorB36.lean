/- A part of the proof that the law returns true for every input: an executor for the model's code, and what functions of the program compute. -/
import Derived.Test.YtcafjpldfnegiaaGreatDoorB11
import Derived.Test.YtcafjpldfnegiaaGreatDoorB15
import Derived.Test.YtcafjpldfnegiaaGreatDoorB28
import Derived.Test.YtcafjpldfnegiaaGreatDoorB35
import Derived.KernelRfl
import Derived.Maps.RangeRun
open Go IntKind
namespace Go.Fw
set_option maxRecDepth 100000
theorem zog(a b c d e:Int)(h1:(decide (e.sign<0))=true)(h2:(decide (-(↑(W7 a b c d e):Int)<0)==false&&(bytesOf (-(↑(W7 a b c d e):Int)).natAbs==bytesOf 1&&true))=false)(s5_0:SmlZ a)(s5_1:SmlZ b)(s5_2:SmlZ c)(s5_3:SmlZ d)(s5_4:SmlZ e)(s16_0:(-9223372036854775808:Int)≤1∧(1:Int)≤9223372036854775807)(s30_0:SmlZ a)(s30_1:SmlZ (-(↑(W7 a b c d e):Int)))(s30_2: -(↑(W7 a b c d e):Int)≠0)(s30_3: -(↑(W7 a b c d e):Int)∣a)(s45_0:SmlZ b)(s45_1:SmlZ (-(↑(W7 a b c d e):Int)))(s45_2: -(↑(W7 a b c d e):Int)≠0)(s45_3: -(↑(W7 a b c d e):Int)∣b)(s60_0:SmlZ c)(s60_1:SmlZ (-(↑(W7 a b c d e):Int)))(s60_2: -(↑(W7 a b c d e):Int)≠0)(s60_3: -(↑(W7 a b c d e):Int)∣c)(s75_0:SmlZ d)(s75_1:SmlZ (-(↑(W7 a b c d e):Int)))(s75_2: -(↑(W7 a b c d e):Int)≠0)(s75_3: -(↑(W7 a b c d e):Int)∣d)(s86_0:SmlZ e)(s86_1:SmlZ (-(↑(W7 a b c d e):Int)))(s86_2: -(↑(W7 a b c d e):Int)≠0)(s86_3: -(↑(W7 a b c d e):Int)∣e):PCall P 204 [c4C a b c d,J6 e] (.agg [.lit (.bool (decide (a/ -(↑(W7 a b c d e):Int)<0))),.lit (.string (bytesOf (a/ -(↑(W7 a b c d e):Int)).natAbs)),.lit (.bool (decide (b/ -(↑(W7 a b c d e):Int)<0))),.lit (.string (bytesOf (b/ -(↑(W7 a b c d e):Int)).natAbs)),.lit (.bool (decide (c/ -(↑(W7 a b c d e):Int)<0))),.lit (.string (bytesOf (c/ -(↑(W7 a b c d e):Int)).natAbs)),.lit (.bool (decide (d/ -(↑(W7 a b c d e):Int)<0))),.lit (.string (bytesOf (d/ -(↑(W7 a b c d e):Int)).natAbs)),.lit (.bool (decide (e/ -(↑(W7 a b c d e):Int)<0))),.lit (.string (bytesOf (e/ -(↑(W7 a b c d e):Int)).natAbs))]):=
 j5 (.r 5 (z23 (a) (b) (c) (d) (e) s5_0 s5_1 s5_2 s5_3 s5_4) (.c (lq 2 2) (.r 9 (z0Q (e)) (.b 11 h1 (.r 13 (z0I ((↑(W7 a b c d e):Int))) (.c (lq 2 2) (.r 16 (z1b ((1:Int)) s16_0) (.b 18 h2 (.c (bq 0 4) (.r 30 (z0k (a) (-(↑(W7 a b c d e):Int)) s30_0 s30_1 s30_2 s30_3) (.c (bq 0 4) (.c (lq 2 8) (.c (bq 1 4) (.r 45 (z0k (b) (-(↑(W7 a b c d e):Int)) s45_0 s45_1 s45_2 s45_3) (.c (bq 1 4) (.c (lq 4 8) (.c (bq 2 4) (.r 60 (z0k (c) (-(↑(W7 a b c d e):Int)) s60_0 s60_1 s60_2 s60_3) (.c (bq 2 4) (.c (lq 6 8) (.c (bq 3 4) (.r 75 (z0k (d) (-(↑(W7 a b c d e):Int)) s75_0 s75_1 s75_2 s75_3) (.c (bq 3 4) (.c (lq 8 8) (.r 86 (z0k (e) (-(↑(W7 a b c d e):Int)) s86_0 s86_1 s86_2 s86_3) (.c (lq 10 10) .nil)))))))))))))))))))))))))) (by kernel_rfl)
theorem zmZ(a b c d e:Int)(h1:(decide (e.sign<0))=false)(h2:(decide ((↑(W7 a b c d e):Int)<0)==false&&(bytesOf (↑(W7 a b c d e):Int).natAbs==bytesOf 1&&true))=true)(s5_0:SmlZ a)(s5_1:SmlZ b)(s5_2:SmlZ c)(s5_3:SmlZ d)(s5_4:SmlZ e)(s13_0:(-9223372036854775808:Int)≤1∧(1:Int)≤9223372036854775807):PCall P 204 [c4C a b c d,J6 e] (.agg [.lit (.bool (decide (a<0))),.lit (.string (bytesOf a.natAbs)),.lit (.bool (decide (b<0))),.lit (.string (bytesOf b.natAbs)),.lit (.bool (decide (c<0))),.lit (.string (bytesOf c.natAbs)),.lit (.bool (decide (d<0))),.lit (.string (bytesOf d.natAbs)),.lit (.bool (decide (e<0))),.lit (.string (bytesOf e.natAbs))]):=
 j5 (.r 5 (z23 (a) (b) (c) (d) (e) s5_0 s5_1 s5_2 s5_3 s5_4) (.c (lq 2 2) (.r 9 (z0Q (e)) (.b 11 h1 (.r 13 (z1b ((1:Int)) s13_0) (.b 15 h2 (.c (lq 10 10) .nil))))))) (by kernel_rfl)
theorem znA(a b c d e:Int)(h1:(decide (e.sign<0))=false)(h2:(decide ((↑(W7 a b c d e):Int)<0)==false&&(bytesOf (↑(W7 a b c d e):Int).natAbs==bytesOf 1&&true))=false)(s5_0:SmlZ a)(s5_1:SmlZ b)(s5_2:SmlZ c)(s5_3:SmlZ d)(s5_4:SmlZ e)(s13_0:(-9223372036854775808:Int)≤1∧(1:Int)≤9223372036854775807)(s27_0:SmlZ a)(s27_1:SmlZ (↑(W7 a b c d e):Int))(s27_2:(↑(W7 a b c d e):Int)≠0)(s27_3:(↑(W7 a b c d e):Int)∣a)(s42_0:SmlZ b)(s42_1:SmlZ (↑(W7 a b c d e):Int))(s42_2:(↑(W7 a b c d e):Int)≠0)(s42_3:(↑(W7 a b c d e):Int)∣b)(s57_0:SmlZ c)(s57_1:SmlZ (↑(W7 a b c d e):Int))(s57_2:(↑(W7 a b c d e):Int)≠0)(s57_3:(↑(W7 a b c d e):Int)∣c)(s72_0:SmlZ d)(s72_1:SmlZ (↑(W7 a b c d e):Int))(s72_2:(↑(W7 a b c d e):Int)≠0)(s72_3:(↑(W7 a b c d e):Int)∣d)(s83_0:SmlZ e)(s83_1:SmlZ (↑(W7 a b c d e):Int))(s83_2:(↑(W7 a b c d e):Int)≠0)(s83_3:(↑(W7 a b c d e):Int)∣e):PCall P 204 [c4C a b c d,J6 e] (.agg [.lit (.bool (decide (a/(↑(W7 a b c d e):Int)<0))),.lit (.string (bytesOf (a/(↑(W7 a b c d e):Int)).natAbs)),.lit (.bool (decide (b/(↑(W7 a b c d e):Int)<0))),.lit (.string (bytesOf (b/(↑(W7 a b c d e):Int)).natAbs)),.lit (.bool (decide (c/(↑(W7 a b c d e):Int)<0))),.lit (.string (bytesOf (c/(↑(W7 a b c d e):Int)).natAbs)),.lit (.bool (decide (d/(↑(W7 a b c d e):Int)<0))),.lit (.string (bytesOf (d/(↑(W7 a b c d e):Int)).natAbs)),.lit (.bool (decide (e/(↑(W7 a b c d e):Int)<0))),.lit (.string (bytesOf (e/(↑(W7 a b c d e):Int)).natAbs))]):=
 j5 (.r 5 (z23 (a) (b) (c) (d) (e) s5_0 s5_1 s5_2 s5_3 s5_4) (.c (lq 2 2) (.r 9 (z0Q (e)) (.b 11 h1 (.r 13 (z1b ((1:Int)) s13_0) (.b 15 h2 (.c (bq 0 4) (.r 27 (z0k (a) ((↑(W7 a b c d e):Int)) s27_0 s27_1 s27_2 s27_3) (.c (bq 0 4) (.c (lq 2 8) (.c (bq 1 4) (.r 42 (z0k (b) ((↑(W7 a b c d e):Int)) s42_0 s42_1 s42_2 s42_3) (.c (bq 1 4) (.c (lq 4 8) (.c (bq 2 4) (.r 57 (z0k (c) ((↑(W7 a b c d e):Int)) s57_0 s57_1 s57_2 s57_3) (.c (bq 2 4) (.c (lq 6 8) (.c (bq 3 4) (.r 72 (z0k (d) ((↑(W7 a b c d e):Int)) s72_0 s72_1 s72_2 s72_3) (.c (bq 3 4) (.c (lq 8 8) (.r 83 (z0k (e) ((↑(W7 a b c d e):Int)) s83_0 s83_1 s83_2 s83_3) (.c (lq 10 10) .nil)))))))))))))))))))))))) (by kernel_rfl)
end Go.Fw
open Go
namespace Go.Fw
set_option maxRecDepth 100000
theorem zh4(x y:ByteArray):(x==y)=decide (x=y):=by
 cases x with|mk a=>cases y with|mk b=>
 have:((⟨a⟩:ByteArray)==⟨b⟩)=(a==b):=rfl
 rw[this]
 by_cases h:a=b
 · subst h;simp
 · simp[h]
theorem z1e(m n:Nat):(bytesOf m==bytesOf n)=decide (m=n):=by
 rw[zh4]
 exact decide_eq_decide.2 ⟨z5j,fun h=>by rw[h]⟩
theorem SmlZ.neg{a:Int}(h:SmlZ a):SmlZ (-a):=by simpa[SmlZ]using h
theorem z7a(a b c d e:Int)(h0:SmlZ a)(h1:SmlZ b)(h2:SmlZ c)(h3:SmlZ d)(h4:SmlZ e)(he:e≠0):PCall P 204 [c4C a b c d,J6 e] (Z9 (K.of a b c d e)):=by
 have hg:=z2J (a:=a) (b:=b) (c:=c) (d:=d) he
 have hgs:SmlZ (W7 a b c d e:Nat):=by
  have g1:Sml (Nat.gcd e.natAbs a.natAbs):=Sml.gcd h4 h0
  have g2:=Sml.gcd (Sml.gcd (Sml.gcd g1 h1) h2) h3
  simpa[SmlZ,W7]using g2
 obtain⟨d0,d1,d2,d3,d4⟩:=K.den_dvd a b c d e
 have hone:(-9223372036854775808:Int)≤1∧(1:Int)≤9223372036854775807:=by decide
 by_cases hn:e<0
 · have hden:K.den a b c d e= -(W7 a b c d e:Int):=by unfold K.den;rw[if_pos hn]
   rw[hden]at d0 d1 d2 d3 d4
   have hs:(decide (e.sign<0))=true:=by rw[Int.sign_eq_neg_one_of_neg hn];rfl
   have hne: -(W7 a b c d e:Int)≠0:=by omega
   have ht:(decide (-(W7 a b c d e:Int)<0)==false&&(bytesOf (-(W7 a b c d e:Int)).natAbs==bytesOf 1&&true))=false:=by
    rw[decide_eq_true (by omega)];rfl
   refine(zog a b c d e hs ht h0 h1 h2 h3 h4 hone h0 hgs.neg hne d0 h1 hgs.neg hne d1 h2 hgs.neg hne d2 h3 hgs.neg hne d3 h4 hgs.neg hne d4).eq ?_
   unfold K.of
   simp only[dif_neg he,hden]
   rfl
 · have hden:K.den a b c d e=(W7 a b c d e:Int):=by unfold K.den;rw[if_neg hn]
   rw[hden]at d0 d1 d2 d3 d4
   have hs:(decide (e.sign<0))=false:=by rw[Int.sign_eq_one_of_pos (by omega)];rfl
   have hne:(W7 a b c d e:Int)≠0:=by omega
   have ht:(decide ((W7 a b c d e:Int)<0)==false&&(bytesOf (W7 a b c d e:Int).natAbs==bytesOf 1&&true))=decide (W7 a b c d e=1):=by
    rw[decide_eq_false (by omega),Int.natAbs_natCast,z1e];simp
   by_cases h1':W7 a b c d e=1
   · refine(zmZ a b c d e hs (by rw[ht];simpa using h1') h0 h1 h2 h3 h4 hone).eq ?_
     unfold K.of
     simp only[dif_neg he,hden,h1']
     exact zgQ (by simp) (by simp) (by simp) (by simp) (by simp)
   · refine(znA a b c d e hs (by rw[ht];simpa using h1') h0 h1 h2 h3 h4 hone h0 hgs hne d0 h1 hgs hne d1 h2 hgs hne d2 h3 hgs hne d3 h4 hgs hne d4).eq ?_
     unfold K.of
     simp only[dif_neg he,hden]
     rfl
end Go.Fw
namespace Go.Fw
end Go.Fw
open Go IntKind
namespace Go.Fw
set_option maxRecDepth 100000
theorem z7I(a b c d e:Int)(h1:decide (e.sign>0)=true)(s70_0:SmlZ a)(s70_1:SmlZ b)(s70_2:SmlZ c)(s70_3:SmlZ d)(s70_4:SmlZ e)(s71_0:(-9223372036854775808:Int)≤1∧(1:Int)≤9223372036854775807):PCall P 154 [n5C a b c d e] (.lit (.bool (decide ((↑(W7 a b c d e):Int)<0)==false&&(bytesOf (↑(W7 a b c d e):Int).natAbs==bytesOf 1&&true)))):=
 j5 (.c (bq 0 4) (.c (lq 2 2) (.r 12 (Z0 (a)) (.c (bq 1 4) (.c (lq 2 2) (.r 24 (Z0 (b)) (.c (bq 2 4) (.c (lq 2 2) (.r 36 (Z0 (c)) (.c (bq 3 4) (.c (lq 2 2) (.r 48 (Z0 (d)) (.r 58 (Z0 (e)) (.r 62 (z0Q (e)) (.b 65 h1 (.r 70 (z23 (a) (b) (c) (d) (e) s70_0 s70_1 s70_2 s70_3 s70_4) (.r 71 (z1b ((1:Int)) s71_0) .nil))))))))))))))))) (by kernel_rfl)
theorem zct(a b c d e:Int)(h1:decide (e.sign>0)=false):PCall P 154 [n5C a b c d e] (.lit (.bool false)):=
 j5 (.c (bq 0 4) (.c (lq 2 2) (.r 12 (Z0 (a)) (.c (bq 1 4) (.c (lq 2 2) (.r 24 (Z0 (b)) (.c (bq 2 4) (.c (lq 2 2) (.r 36 (Z0 (c)) (.c (bq 3 4) (.c (lq 2 2) (.r 48 (Z0 (d)) (.r 58 (Z0 (e)) (.r 62 (z0Q (e)) (.b 65 h1 .nil))))))))))))))) (by kernel_rfl)
theorem zeP(k:Int)(h1:(k==2)=true)(s1_0:(-9223372036854775808:Int)≤0∧(0:Int)≤9223372036854775807)(s8_0:(-9223372036854775808:Int)≤1∧(1:Int)≤9223372036854775807):PCall P 235 [.lit (.int .i64 k)] (.agg [.lit (.bool false),.lit (.string (bytesOf 0)),.lit (.bool false),.lit (.string (bytesOf 1)),.lit (.bool false),.lit (.string (bytesOf 0)),.lit (.bool false),.lit (.string (bytesOf 0)),.lit (.bool false),.lit (.string (bytesOf 1))]):=
 j5 (.r 1 (z0o ((0:Int)) s1_0) (.c (lq 10 10) (.b 7 h1 (.r 8 (z1b ((1:Int)) s8_0) (.c (bq 1 4) (.c (lq 4 10) (.c (lq 10 10) .nil))))))) (by kernel_rfl)
theorem zgc(k:Int)(h1:(k==2)=false)(h2:(k==3)=true)(s1_0:(-9223372036854775808:Int)≤0∧(0:Int)≤9223372036854775807)(s11_0:(-9223372036854775808:Int)≤1∧(1:Int)≤9223372036854775807):PCall P 235 [.lit (.int .i64 k)] (.agg [.lit (.bool false),.lit (.string (bytesOf 0)),.lit (.bool false),.lit (.string (bytesOf 0)),.lit (.bool false),.lit (.string (bytesOf 1)),.lit (.bool false),.lit (.string (bytesOf 0)),.lit (.bool false),.lit (.string (bytesOf 1))]):=
 j5 (.r 1 (z0o ((0:Int)) s1_0) (.c (lq 10 10) (.b 7 h1 (.b 10 h2 (.r 11 (z1b ((1:Int)) s11_0) (.c (bq 2 4) (.c (lq 6 10) (.c (lq 10 10) .nil)))))))) (by kernel_rfl)
theorem zeA(k:Int)(h1:(k==2)=false)(h2:(k==3)=false)(h3:(k==6)=true)(s1_0:(-9223372036854775808:Int)≤0∧(0:Int)≤9223372036854775807)(s14_0:(-9223372036854775808:Int)≤1∧(1:Int)≤9223372036854775807):PCall P 235 [.lit (.int .i64 k)] (.agg [.lit (.bool false),.lit (.string (bytesOf 0)),.lit (.bool false),.lit (.string (bytesOf 0)),.lit (.bool false),.lit (.string (bytesOf 0)),.lit (.bool false),.lit (.string (bytesOf 1)),.lit (.bool false),.lit (.string (bytesOf 1))]):=
 j5 (.r 1 (z0o ((0:Int)) s1_0) (.c (lq 10 10) (.b 7 h1 (.b 10 h2 (.b 13 h3 (.r 14 (z1b ((1:Int)) s14_0) (.c (bq 3 4) (.c (lq 8 10) (.c (lq 10 10) .nil))))))))) (by kernel_rfl)
theorem zbN(a b c d e:Int):PCall P 211 [n5C a b c d e,.lit (.int .i64 1)] (.agg [.lit (.bool (decide (a<0))),.lit (.string (bytesOf a.natAbs)),.lit (.bool (decide (-b<0))),.lit (.string (bytesOf (-b).natAbs)),.lit (.bool (decide (c<0))),.lit (.string (bytesOf c.natAbs)),.lit (.bool (decide (-d<0))),.lit (.string (bytesOf (-d).natAbs)),.lit (.bool (decide (e<0))),.lit (.string (bytesOf e.natAbs))]):=
 j5 (.c (bq 1 4) (.r 30 (z0I (b)) (.c (bq 1 4) (.c (lq 4 10) (.c (bq 3 4) (.r 63 (z0I (d)) (.c (bq 3 4) (.c (lq 8 10) (.c (lq 10 10) .nil))))))))) (by kernel_rfl)
theorem zcG(a b c d e:Int):PCall P 211 [n5C a b c d e,.lit (.int .i64 2)] (.agg [.lit (.bool (decide (a<0))),.lit (.string (bytesOf a.natAbs)),.lit (.bool (decide (b<0))),.lit (.string (bytesOf b.natAbs)),.lit (.bool (decide (-c<0))),.lit (.string (bytesOf (-c).natAbs)),.lit (.bool (decide (-d<0))),.lit (.string (bytesOf (-d).natAbs)),.lit (.bool (decide (e<0))),.lit (.string (bytesOf e.natAbs))]):=
 j5 (.c (bq 2 4) (.r 42 (z0I (c)) (.c (bq 2 4) (.c (lq 6 10) (.c (bq 3 4) (.r 63 (z0I (d)) (.c (bq 3 4) (.c (lq 8 10) (.c (lq 10 10) .nil))))))))) (by kernel_rfl)
end Go.Fw
open Go IntKind
namespace Go.Fw
set_option maxRecDepth 100000
theorem zm5(a b c d e:Int)(h1:decide (e.sign<0)=true)(h2:(!(decide (-(↑(↑((↑((↑((↑(e.natAbs.gcd a.natAbs):Int).natAbs.gcd b.natAbs):Int).natAbs.gcd c.natAbs):Int).natAbs.gcd d.natAbs):Int).natAbs:Int)<0)==false&&(bytesOf (-(↑(↑((↑((↑((↑(e.natAbs.gcd a.natAbs):Int).natAbs.gcd b.natAbs):Int).natAbs.gcd c.natAbs):Int).natAbs.gcd d.natAbs):Int).natAbs:Int)).natAbs==bytesOf 1&&true)))=true)(s15_0:z6I e a)(s28_0:z6I (↑(e.natAbs.gcd a.natAbs):Int) b)(s41_0:z6I (↑((↑(e.natAbs.gcd a.natAbs):Int).natAbs.gcd b.natAbs):Int) c)(s54_0:z6I (↑((↑((↑(e.natAbs.gcd a.natAbs):Int).natAbs.gcd b.natAbs):Int).natAbs.gcd c.natAbs):Int) d)(s79_0:(-9223372036854775808:Int)≤1∧(1:Int)≤9223372036854775807)(s92_0:z2u a (-(↑(↑((↑((↑((↑(e.natAbs.gcd a.natAbs):Int).natAbs.gcd b.natAbs):Int).natAbs.gcd c.natAbs):Int).natAbs.gcd d.natAbs):Int).natAbs:Int)))(s108_0:z2u b (-(↑(↑((↑((↑((↑(e.natAbs.gcd a.natAbs):Int).natAbs.gcd b.natAbs):Int).natAbs.gcd c.natAbs):Int).natAbs.gcd d.natAbs):Int).natAbs:Int)))(s124_0:z2u c (-(↑(↑((↑((↑((↑(e.natAbs.gcd a.natAbs):Int).natAbs.gcd b.natAbs):Int).natAbs.gcd c.natAbs):Int).natAbs.gcd d.natAbs):Int).natAbs:Int)))(s140_0:z2u d (-(↑(↑((↑((↑((↑(e.natAbs.gcd a.natAbs):Int).natAbs.gcd b.natAbs):Int).natAbs.gcd c.natAbs):Int).natAbs.gcd d.natAbs):Int).natAbs:Int)))(s153_0:z2u e (-(↑(↑((↑((↑((↑(e.natAbs.gcd a.natAbs):Int).natAbs.gcd b.natAbs):Int).natAbs.gcd c.natAbs):Int).natAbs.gcd d.natAbs):Int).natAbs:Int))):PCall P 129 [c4C a b c d,J6 e] (.agg [.lit (.bool (decide (a/ -(↑(↑((↑((↑((↑(e.natAbs.gcd a.natAbs):Int).natAbs.gcd b.natAbs):Int).natAbs.gcd c.natAbs):Int).natAbs.gcd d.natAbs):Int).natAbs:Int)<0))),.lit (.string (bytesOf (a/ -(↑(↑((↑((↑((↑(e.natAbs.gcd a.natAbs):Int).natAbs.gcd b.natAbs):Int).natAbs.gcd c.natAbs):Int).natAbs.gcd d.natAbs):Int).natAbs:Int)).natAbs)),.lit (.bool (decide (b/ -(↑(↑((↑((↑((↑(e.natAbs.gcd a.natAbs):Int).natAbs.gcd b.natAbs):Int).natAbs.gcd c.natAbs):Int).natAbs.gcd d.natAbs):Int).natAbs:Int)<0))),.lit (.string (bytesOf (b/ -(↑(↑((↑((↑((↑(e.natAbs.gcd a.natAbs):Int).natAbs.gcd b.natAbs):Int).natAbs.gcd c.natAbs):Int).natAbs.gcd d.natAbs):Int).natAbs:Int)).natAbs)),.lit (.bool (decide (c/ -(↑(↑((↑((↑((↑(e.natAbs.gcd a.natAbs):Int).natAbs.gcd b.natAbs):Int).natAbs.gcd c.natAbs):Int).natAbs.gcd d.natAbs):Int).natAbs:Int)<0))),.lit (.string (bytesOf (c/ -(↑(↑((↑((↑((↑(e.natAbs.gcd a.natAbs):Int).natAbs.gcd b.natAbs):Int).natAbs.gcd c.natAbs):Int).natAbs.gcd d.natAbs):Int).natAbs:Int)).natAbs)),.lit (.bool (decide (d/ -(↑(↑((↑((↑((↑(e.natAbs.gcd a.natAbs):Int).natAbs.gcd b.natAbs):Int).natAbs.gcd c.natAbs):Int).natAbs.gcd d.natAbs):Int).natAbs:Int)<0))),.lit (.string (bytesOf (d/ -(↑(↑((↑((↑((↑(e.natAbs.gcd a.natAbs):Int).natAbs.gcd b.natAbs):Int).natAbs.gcd c.natAbs):Int).natAbs.gcd d.natAbs):Int).natAbs:Int)).natAbs)),.lit (.bool (decide (e/ -(↑(↑((↑((↑((↑(e.natAbs.gcd a.natAbs):Int).natAbs.gcd b.natAbs):Int).natAbs.gcd c.natAbs):Int).natAbs.gcd d.natAbs):Int).natAbs:Int)<0))),.lit (.string (bytesOf (e/ -(↑(↑((↑((↑((↑(e.natAbs.gcd a.natAbs):Int).natAbs.gcd b.natAbs):Int).natAbs.gcd c.natAbs):Int).natAbs.gcd d.natAbs):Int).natAbs:Int)).natAbs))]):=
 j5 (.c (lq 2 2) (.c (bq 0 4) (.r 15 (z2g (e) (a) s15_0) (.c (lq 2 2) (.c (bq 1 4) (.r 28 (z2g ((↑(e.natAbs.gcd a.natAbs):Int)) (b) s28_0) (.c (lq 2 2) (.c (bq 2 4) (.r 41 (z2g ((↑((↑(e.natAbs.gcd a.natAbs):Int).natAbs.gcd b.natAbs):Int)) (c) s41_0) (.c (lq 2 2) (.c (bq 3 4) (.r 54 (z2g ((↑((↑((↑(e.natAbs.gcd a.natAbs):Int).natAbs.gcd b.natAbs):Int).natAbs.gcd c.natAbs):Int)) (d) s54_0) (.c (lq 2 2) (.r 64 (z5V ((↑((↑((↑((↑(e.natAbs.gcd a.natAbs):Int).natAbs.gcd b.natAbs):Int).natAbs.gcd c.natAbs):Int).natAbs.gcd d.natAbs):Int))) (.c (lq 2 2) (.r 67 (Z3 (e)) (.b 69 h1 (.r 71 (z1S ((↑(↑((↑((↑((↑(e.natAbs.gcd a.natAbs):Int).natAbs.gcd b.natAbs):Int).natAbs.gcd c.natAbs):Int).natAbs.gcd d.natAbs):Int).natAbs:Int))) (.c (lq 2 2) (.c (lq 10 10) (.r 79 (Y1 ((1:Int)) s79_0) (.b 81 h2 (.c (bq 0 4) (.r 92 (z1w (a) (-(↑(↑((↑((↑((↑(e.natAbs.gcd a.natAbs):Int).natAbs.gcd b.natAbs):Int).natAbs.gcd c.natAbs):Int).natAbs.gcd d.natAbs):Int).natAbs:Int)) s92_0) (.c (bq 0 4) (.c (lq 2 10) (.c (bq 1 4) (.r 108 (z1w (b) (-(↑(↑((↑((↑((↑(e.natAbs.gcd a.natAbs):Int).natAbs.gcd b.natAbs):Int).natAbs.gcd c.natAbs):Int).natAbs.gcd d.natAbs):Int).natAbs:Int)) s108_0) (.c (bq 1 4) (.c (lq 4 10) (.c (bq 2 4) (.r 124 (z1w (c) (-(↑(↑((↑((↑((↑(e.natAbs.gcd a.natAbs):Int).natAbs.gcd b.natAbs):Int).natAbs.gcd c.natAbs):Int).natAbs.gcd d.natAbs):Int).natAbs:Int)) s124_0) (.c (bq 2 4) (.c (lq 6 10) (.c (bq 3 4) (.r 140 (z1w (d) (-(↑(↑((↑((↑((↑(e.natAbs.gcd a.natAbs):Int).natAbs.gcd b.natAbs):Int).natAbs.gcd c.natAbs):Int).natAbs.gcd d.natAbs):Int).natAbs:Int)) s140_0) (.c (bq 3 4) (.c (lq 8 10) (.r 153 (z1w (e) (-(↑(↑((↑((↑((↑(e.natAbs.gcd a.natAbs):Int).natAbs.gcd b.natAbs):Int).natAbs.gcd c.natAbs):Int).natAbs.gcd d.natAbs):Int).natAbs:Int)) s153_0) (.c (lq 10 10) (.c (lq 10 10) .nil))))))))))))))))))))))))))))))))))))))))) (by kernel_rfl)
theorem zoy(a b c d e:Int)(h1:decide (e.sign<0)=false)(h2:(!(decide ((↑(↑((↑((↑((↑(e.natAbs.gcd a.natAbs):Int).natAbs.gcd b.natAbs):Int).natAbs.gcd c.natAbs):Int).natAbs.gcd d.natAbs):Int).natAbs:Int)<0)==false&&(bytesOf (↑(↑((↑((↑((↑(e.natAbs.gcd a.natAbs):Int).natAbs.gcd b.natAbs):Int).natAbs.gcd c.natAbs):Int).natAbs.gcd d.natAbs):Int).natAbs:Int).natAbs==bytesOf 1&&true)))=true)(s15_0:z6I e a)(s28_0:z6I (↑(e.natAbs.gcd a.natAbs):Int) b)(s41_0:z6I (↑((↑(e.natAbs.gcd a.natAbs):Int).natAbs.gcd b.natAbs):Int) c)(s54_0:z6I (↑((↑((↑(e.natAbs.gcd a.natAbs):Int).natAbs.gcd b.natAbs):Int).natAbs.gcd c.natAbs):Int) d)(s76_0:(-9223372036854775808:Int)≤1∧(1:Int)≤9223372036854775807)(s89_0:z2u a (↑(↑((↑((↑((↑(e.natAbs.gcd a.natAbs):Int).natAbs.gcd b.natAbs):Int).natAbs.gcd c.natAbs):Int).natAbs.gcd d.natAbs):Int).natAbs:Int))(s105_0:z2u b (↑(↑((↑((↑((↑(e.natAbs.gcd a.natAbs):Int).natAbs.gcd b.natAbs):Int).natAbs.gcd c.natAbs):Int).natAbs.gcd d.natAbs):Int).natAbs:Int))(s121_0:z2u c (↑(↑((↑((↑((↑(e.natAbs.gcd a.natAbs):Int).natAbs.gcd b.natAbs):Int).natAbs.gcd c.natAbs):Int).natAbs.gcd d.natAbs):Int).natAbs:Int))(s137_0:z2u d (↑(↑((↑((↑((↑(e.natAbs.gcd a.natAbs):Int).natAbs.gcd b.natAbs):Int).natAbs.gcd c.natAbs):Int).natAbs.gcd d.natAbs):Int).natAbs:Int))(s150_0:z2u e (↑(↑((↑((↑((↑(e.natAbs.gcd a.natAbs):Int).natAbs.gcd b.natAbs):Int).natAbs.gcd c.natAbs):Int).natAbs.gcd d.natAbs):Int).natAbs:Int)):PCall P 129 [c4C a b c d,J6 e] (.agg [.lit (.bool (decide (a/(↑(↑((↑((↑((↑(e.natAbs.gcd a.natAbs):Int).natAbs.gcd b.natAbs):Int).natAbs.gcd c.natAbs):Int).natAbs.gcd d.natAbs):Int).natAbs:Int)<0))),.lit (.string (bytesOf (a/(↑(↑((↑((↑((↑(e.natAbs.gcd a.natAbs):Int).natAbs.gcd b.natAbs):Int).natAbs.gcd c.natAbs):Int).natAbs.gcd d.natAbs):Int).natAbs:Int)).natAbs)),.lit (.bool (decide (b/(↑(↑((↑((↑((↑(e.natAbs.gcd a.natAbs):Int).natAbs.gcd b.natAbs):Int).natAbs.gcd c.natAbs):Int).natAbs.gcd d.natAbs):Int).natAbs:Int)<0))),.lit (.string (bytesOf (b/(↑(↑((↑((↑((↑(e.natAbs.gcd a.natAbs):Int).natAbs.gcd b.natAbs):Int).natAbs.gcd c.natAbs):Int).natAbs.gcd d.natAbs):Int).natAbs:Int)).natAbs)),.lit (.bool (decide (c/(↑(↑((↑((↑((↑(e.natAbs.gcd a.natAbs):Int).natAbs.gcd b.natAbs):Int).natAbs.gcd c.natAbs):Int).natAbs.gcd d.natAbs):Int).natAbs:Int)<0))),.lit (.string (bytesOf (c/(↑(↑((↑((↑((↑(e.natAbs.gcd a.natAbs):Int).natAbs.gcd b.natAbs):Int).natAbs.gcd c.natAbs):Int).natAbs.gcd d.natAbs):Int).natAbs:Int)).natAbs)),.lit (.bool (decide (d/(↑(↑((↑((↑((↑(e.natAbs.gcd a.natAbs):Int).natAbs.gcd b.natAbs):Int).natAbs.gcd c.natAbs):Int).natAbs.gcd d.natAbs):Int).natAbs:Int)<0))),.lit (.string (bytesOf (d/(↑(↑((↑((↑((↑(e.natAbs.gcd a.natAbs):Int).natAbs.gcd b.natAbs):Int).natAbs.gcd c.natAbs):Int).natAbs.gcd d.natAbs):Int).natAbs:Int)).natAbs)),.lit (.bool (decide (e/(↑(↑((↑((↑((↑(e.natAbs.gcd a.natAbs):Int).natAbs.gcd b.natAbs):Int).natAbs.gcd c.natAbs):Int).natAbs.gcd d.natAbs):Int).natAbs:Int)<0))),.lit (.string (bytesOf (e/(↑(↑((↑((↑((↑(e.natAbs.gcd a.natAbs):Int).natAbs.gcd b.natAbs):Int).natAbs.gcd c.natAbs):Int).natAbs.gcd d.natAbs):Int).natAbs:Int)).natAbs))]):=
 j5 (.c (lq 2 2) (.c (bq 0 4) (.r 15 (z2g (e) (a) s15_0) (.c (lq 2 2) (.c (bq 1 4) (.r 28 (z2g ((↑(e.natAbs.gcd a.natAbs):Int)) (b) s28_0) (.c (lq 2 2) (.c (bq 2 4) (.r 41 (z2g ((↑((↑(e.natAbs.gcd a.natAbs):Int).natAbs.gcd b.natAbs):Int)) (c) s41_0) (.c (lq 2 2) (.c (bq 3 4) (.r 54 (z2g ((↑((↑((↑(e.natAbs.gcd a.natAbs):Int).natAbs.gcd b.natAbs):Int).natAbs.gcd c.natAbs):Int)) (d) s54_0) (.c (lq 2 2) (.r 64 (z5V ((↑((↑((↑((↑(e.natAbs.gcd a.natAbs):Int).natAbs.gcd b.natAbs):Int).natAbs.gcd c.natAbs):Int).natAbs.gcd d.natAbs):Int))) (.c (lq 2 2) (.r 67 (Z3 (e)) (.b 69 h1 (.c (lq 10 10) (.r 76 (Y1 ((1:Int)) s76_0) (.b 78 h2 (.c (bq 0 4) (.r 89 (z1w (a) ((↑(↑((↑((↑((↑(e.natAbs.gcd a.natAbs):Int).natAbs.gcd b.natAbs):Int).natAbs.gcd c.natAbs):Int).natAbs.gcd d.natAbs):Int).natAbs:Int)) s89_0) (.c (bq 0 4) (.c (lq 2 10) (.c (bq 1 4) (.r 105 (z1w (b) ((↑(↑((↑((↑((↑(e.natAbs.gcd a.natAbs):Int).natAbs.gcd b.natAbs):Int).natAbs.gcd c.natAbs):Int).natAbs.gcd d.natAbs):Int).natAbs:Int)) s105_0) (.c (bq 1 4) (.c (lq 4 10) (.c (bq 2 4) (.r 121 (z1w (c) ((↑(↑((↑((↑((↑(e.natAbs.gcd a.natAbs):Int).natAbs.gcd b.natAbs):Int).natAbs.gcd c.natAbs):Int).natAbs.gcd d.natAbs):Int).natAbs:Int)) s121_0) (.c (bq 2 4) (.c (lq 6 10) (.c (bq 3 4) (.r 137 (z1w (d) ((↑(↑((↑((↑((↑(e.natAbs.gcd a.natAbs):Int).natAbs.gcd b.natAbs):Int).natAbs.gcd c.natAbs):Int).natAbs.gcd d.natAbs):Int).natAbs:Int)) s137_0) (.c (bq 3 4) (.c (lq 8 10) (.r 150 (z1w (e) ((↑(↑((↑((↑((↑(e.natAbs.gcd a.natAbs):Int).natAbs.gcd b.natAbs):Int).natAbs.gcd c.natAbs):Int).natAbs.gcd d.natAbs):Int).natAbs:Int)) s150_0) (.c (lq 10 10) (.c (lq 10 10) .nil))))))))))))))))))))))))))))))))))))))) (by kernel_rfl)
theorem zlU(a b c d e:Int)(h1:decide (e.sign<0)=false)(h2:(!(decide ((↑(↑((↑((↑((↑(e.natAbs.gcd a.natAbs):Int).natAbs.gcd b.natAbs):Int).natAbs.gcd c.natAbs):Int).natAbs.gcd d.natAbs):Int).natAbs:Int)<0)==false&&(bytesOf (↑(↑((↑((↑((↑(e.natAbs.gcd a.natAbs):Int).natAbs.gcd b.natAbs):Int).natAbs.gcd c.natAbs):Int).natAbs.gcd d.natAbs):Int).natAbs:Int).natAbs==bytesOf 1&&true)))=false)(s15_0:z6I e a)(s28_0:z6I (↑(e.natAbs.gcd a.natAbs):Int) b)(s41_0:z6I (↑((↑(e.natAbs.gcd a.natAbs):Int).natAbs.gcd b.natAbs):Int) c)(s54_0:z6I (↑((↑((↑(e.natAbs.gcd a.natAbs):Int).natAbs.gcd b.natAbs):Int).natAbs.gcd c.natAbs):Int) d)(s76_0:(-9223372036854775808:Int)≤1∧(1:Int)≤9223372036854775807):PCall P 129 [c4C a b c d,J6 e] (.agg [.lit (.bool (decide (a<0))),.lit (.string (bytesOf a.natAbs)),.lit (.bool (decide (b<0))),.lit (.string (bytesOf b.natAbs)),.lit (.bool (decide (c<0))),.lit (.string (bytesOf c.natAbs)),.lit (.bool (decide (d<0))),.lit (.string (bytesOf d.natAbs)),.lit (.bool (decide (e<0))),.lit (.string (bytesOf e.natAbs))]):=
 j5 (.c (lq 2 2) (.c (bq 0 4) (.r 15 (z2g (e) (a) s15_0) (.c (lq 2 2) (.c (bq 1 4) (.r 28 (z2g ((↑(e.natAbs.gcd a.natAbs):Int)) (b) s28_0) (.c (lq 2 2) (.c (bq 2 4) (.r 41 (z2g ((↑((↑(e.natAbs.gcd a.natAbs):Int).natAbs.gcd b.natAbs):Int)) (c) s41_0) (.c (lq 2 2) (.c (bq 3 4) (.r 54 (z2g ((↑((↑((↑(e.natAbs.gcd a.natAbs):Int).natAbs.gcd b.natAbs):Int).natAbs.gcd c.natAbs):Int)) (d) s54_0) (.c (lq 2 2) (.r 64 (z5V ((↑((↑((↑((↑(e.natAbs.gcd a.natAbs):Int).natAbs.gcd b.natAbs):Int).natAbs.gcd c.natAbs):Int).natAbs.gcd d.natAbs):Int))) (.c (lq 2 2) (.r 67 (Z3 (e)) (.b 69 h1 (.c (lq 10 10) (.r 76 (Y1 ((1:Int)) s76_0) (.b 78 h2 (.c (lq 10 10) .nil))))))))))))))))))))) (by kernel_rfl)
end Go.Fw
open Go
namespace Go.Fw
set_option maxRecDepth 100000
theorem zin(a b c d e g:Int)(h:g=K.den a b c d e)(he:e≠0):n5C (a/g) (b/g) (c/g) (d/g) (e/g)=Z9 (K.of a b c d e):=by
 subst h
 have key: ∀x:K,x=K.of a b c d e→n5C (a/K.den a b c d e) (b/K.den a b c d e) (c/K.den a b c d e) (d/K.den a b c d e) (e/K.den a b c d e)=Z9 x:=by
  intro x hx
  unfold K.of at hx
  rw[dif_neg he]at hx
  subst hx
  rfl
 exact key _ rfl
theorem zda (a b c d e : Int) (he : e ≠ 0) (g1 : z6I e a) (g2 : z6I ((Nat.gcd e.natAbs a.natAbs : Nat) : Int) b) (g3 : z6I ((Nat.gcd (Nat.gcd e.natAbs a.natAbs) b.natAbs : Nat) : Int) c)
    (g4:z6I ((Nat.gcd (Nat.gcd (Nat.gcd e.natAbs a.natAbs) b.natAbs) c.natAbs:Nat):Int) d)
    (oa:z2u a (K.den a b c d e)) (ob:z2u b (K.den a b c d e)) (oc:z2u c (K.den a b c d e)) (od:z2u d (K.den a b c d e)) (oe:z2u e (K.den a b c d e)):
    PCall P 129 [c4C a b c d,J6 e] (Z9 (K.of a b c d e)):=by
 have hden:K.den a b c d e=if e<0 then-((Nat.gcd (Nat.gcd (Nat.gcd (Nat.gcd e.natAbs a.natAbs) b.natAbs) c.natAbs) d.natAbs:Nat):Int)else((Nat.gcd (Nat.gcd (Nat.gcd (Nat.gcd e.natAbs a.natAbs) b.natAbs) c.natAbs) d.natAbs:Nat):Int):=rfl
 have hg0:0<Nat.gcd (Nat.gcd (Nat.gcd (Nat.gcd e.natAbs a.natAbs) b.natAbs) c.natAbs) d.natAbs:=z2J he
 by_cases hs:e<0
 · have hsg:decide (e.sign<0)=true:=decide_eq_true (Int.sign_neg_iff.2 hs)
   rw[if_pos hs]at hden
   rw[hden]at oa ob oc od oe
   have:=zm5 a b c d e hsg
   simp only[Int.natAbs_natCast]at this
   refine(this ?_ g1 g2 g3 g4 (by decide) oa ob oc od oe).eq (zin a b c d e _ hden.symm he)
   rw[decide_eq_true (by omega)];rfl
 · have hsg:decide (e.sign<0)=false:=decide_eq_false (by rw[Int.sign_neg_iff];exact hs)
   rw[if_neg hs]at hden
   rw[hden]at oa ob oc od oe
   by_cases h1:Nat.gcd (Nat.gcd (Nat.gcd (Nat.gcd e.natAbs a.natAbs) b.natAbs) c.natAbs) d.natAbs=1
   · have:=zlU a b c d e hsg
     simp only[Int.natAbs_natCast]at this
     refine(this ?_ g1 g2 g3 g4 (by decide)).eq ?_
     · rw[decide_eq_false (by omega),z1e,decide_eq_true h1];rfl
     · have:=zin a b c d e _ hden.symm he
       rw[h1]at this
       simp only[Int.natCast_one,Int.ediv_one]at this
       exact this
   · have:=zoy a b c d e hsg
     simp only[Int.natAbs_natCast]at this
     refine(this ?_ g1 g2 g3 g4 (by decide) oa ob oc od oe).eq (zin a b c d e _ hden.symm he)
     rw[z1e,decide_eq_false h1];simp
end Go.Fw
open Go
namespace Go.Fw
section
variable{P:Program}
def z8K:List Bool→Code→Code
 | [],c=>c
 |false::l,.seq x _=>z8K l x
 |true::l,.seq _ y=>z8K l y
 |_::l,.loop x=>z8K l x
 |_::l,.block _ x=>z8K l x
 |_,c=>c
def regM(P:Program)(c:Code)(s:St)(ors:Ors):Option (St×List Prop):=
 match c with
 | .region _ ra draw=>
  match zem P ra.toList s.hp.length false (List.range ra.size) 0 ors {s with hp:=s.hp++List.replicate (W9 ra.toList ra.size) none} [] []with
  | .ok _ _ s' ob es=>if draw&&!(z5J s.hp.length ra.toList es&&z0x 0 ra.toList&&P.follows .mixedOrders)then none else some (s',ob)
  | .bad .. =>none
 |_=>none
theorem z6y {w0 : Start} {c : Code} {s s' : St} {ors : Ors} {ob : List Prop} {a : Act} {w : World} {I : Imm} {p : Pl} (h : regM P c s ors = some (s', ob)) (hob : ∀ q ∈ ob, q) (R : SRel w0 s I p a w) (hB : z3U s p) :
    c.wp P (z5W w0 s' I p) a w:=by
 unfold regM at h
 split at h
 · split at h
   · rename_i hm
     split at h
     · cases h
     · rename_i hd
       cases h
       exact z4x (ask:=false) hm (fun hdr=>by subst hdr;simpa using hd) hob R hB
   · cases h
 · cases h
theorem Ok.regM{f:FuncId}{c:Code}{k:List Item}{s s':St}{R:Goal}{ors:Ors}{ob:List Prop}(h:regM P c s ors=some (s',ob))(hob:AllP ob)(hk:Ok P f k s' R):Ok P f (.code c::k) s R:=by
 intro w0 I p a w b cs h1 h2 h3 h31 h32 h4 h5
 obtain⟨a',w1,⟨I',p',q1,q2,q3,q4⟩,hst⟩:=z2c (P:=P) (b:=b) (k:=k) (cs:=cs) (show c.wp P (fun e a' w'=>e= .normal∧ ∃I' p',I.le I'∧SRel w0 s' I' p' a' w'∧z3U s' p'∧p.le p') a w from z6y (w0:=w0) h hob.mem h4 h5)
 obtain⟨e,w',fr,k1,k2,k3⟩:=hk w0 I' p' a' w1 b cs h1 h2 (Imm.le_trans h3 q1) (Pl.le_trans h31 q4) h32 q2 q3
 exact⟨e,w',fr,k1,.of_steps hst k2,k3⟩
def OkX(P:Program)(f:FuncId)(todo:List Item)(s:St)(R:Goal)(X:Start→Pl→World→Prop):Prop:=
 ∀(w0:Start) (I:Imm) (p:Pl) (a:Act) (w:World) (b:Frame) (cs:List Frame),b.fn=f→b.kind= .normal→w0.im.le I→w0.pl.le p→(∀k,R.n≤k→w0.pl k=none)→SRel w0 s I p a w→z3U s p→X w0 p w→
  ∃e w' fr,Fin w0 R e w'∧Comes P (lone (b.at a todo) cs w) (lone fr cs w') e∧fr.fn=f∧fr.leaving P w' e
theorem OkX.of{f:FuncId}{todo:List Item}{s:St}{R:Goal}{X:Start→Pl→World→Prop}(h:Ok P f todo s R):OkX P f todo s R X:=
 fun w0 I p a w b cs h1 h2 h3 h31 h32 h4 h5 _=>h w0 I p a w b cs h1 h2 h3 h31 h32 h4 h5
theorem OkX.step {f : FuncId} {todo todo' : List Item} {s : St} {R : Goal} {X : Start → Pl → World → Prop} (h : OkX P f todo' s R X)
    (hs: ∀(b:Frame) (a:Act) (cs:List Frame) (w:World),step P (lone (b.at a todo) cs w)= .next (lone (b.at a todo') cs w)):OkX P f todo s R X:=by
 intro w0 I p a w b cs h1 h2 h3 h31 h32 h4 h5 h6
 obtain⟨e,w',fr,k1,k2,k3⟩:=h w0 I p a w b cs h1 h2 h3 h31 h32 h4 h5 h6
 exact⟨e,w',fr,k1,.of_steps (.one (hs b a cs w)) k2,k3⟩
theorem OkX.cond {f : FuncId} {c : Operand} {x y : Code} {k : List Item} {s : St} {R : Goal} {X : Start → Pl → World → Prop} {t d : Bool} (hc : z1E s.tm c = .cv (.lit (.bool t))) (htd : t = d)
    (h:OkX P f (.code (if d then x else y)::k) s R X):OkX P f (.code (.cond c x y)::k) s R X:=by
 intro w0 I p a w b cs h1 h2 h3 h31 h32 h4 h5 h6
 obtain⟨e,w',fr,k1,k2,k3⟩:=h w0 I p a w b cs h1 h2 h3 h31 h32 h4 h5 h6
 refine⟨e,w',fr,k1,.of_steps (.one (step_cond ?_)) k2,k3⟩
 have:=z5m h4.tm c
 rw[hc]at this
 rw[Z1 this,htd]
structure XI(r:Nat)(es:Array MapEntry)(clock:Nat)(seen:Array Nat)(w0:Start)(p:Pl)(w:World):Prop where
 m: ∃bm,w.heap[bm]?=some (.map es clock)∧w.heap[r]?=some (.mapIter (some bm) clock seen clock)∧ ∀i κ,p i≠some (bm,κ)
 pr: ∀i κ,p i≠some (r,κ)
 own:w0.own r
 ps: ∀i b κ,p i=some (b,κ)→w0.own b
def z3h:List Blk→Bool
 | []=>true
 |some _::l=>z3h l
 |none::_=>false
theorem z21: ∀(l:List Blk) (i:Nat),z3h l=true→i<l.length→ ∃c,l[i]?=some (some c)
 |some c::l,0,_,_=>⟨c,rfl⟩
 |some c::l,i+1,h,hi=>by simpa using z21 l i h (by simpa using hi)
 |none::l,i,h,_=>by simp[z3h]at h
 | [],i,_,hi=>by simp at hi
theorem zdz{w0:Start}{s:St}{I:Imm}{p:Pl}{a:Act}{w:World}(h:SRel w0 s I p a w):SRel ⟨w,I,p⟩ s I p a w:=by
 refine⟨h.tm,h.defers,⟨rfl,rfl,rfl,Nat.le_refl _,fun _ _=>rfl⟩,h.hp.im,fun b hb=> .inl hb,fun i cells hi=>?_,h.hp.inj⟩
 obtain⟨b,κ,c,T,g1,g2,g3,g4,_,g6⟩:=h.hp.live i cells hi
 exact⟨b,κ,c,T,g1,g2,g3,g4,.inr ⟨i,κ,g1⟩,g6⟩
theorem zdC{w0:Start}{I:Imm}{p:Pl}{w:World}(hB:Blw w0 w)(hps: ∀i b κ,p i=some (b,κ)→w0.own b){b:Nat}(h:(⟨w,I,p⟩:Start).own b):w0.own b:=by
 rcases h with h|⟨i,κ,h⟩
 · exact .inl (Nat.le_trans hB.size h)
 · exact hps i b κ h
theorem zfp{w0:Start}{s s':St}{I I':Imm}{p p':Pl}{a a':Act}{w w':World}(h:SRel w0 s I p a w)(hps: ∀i b κ,p i=some (b,κ)→w0.own b)(h':SRel ⟨w,I,p⟩ s' I' p' a' w'):SRel w0 s' I' p' a' w':=by
 have ho:= @zdC w0 I p w h.hp.below hps
 refine⟨h'.tm,h'.defers,⟨h'.hp.below.os.trans h.hp.below.os,h'.hp.below.tape.trans h.hp.below.tape,h'.hp.below.output.trans h.hp.below.output,Nat.le_trans h.hp.below.size h'.hp.below.size,fun k hk=>?_⟩,h'.hp.im,fun b hb=>?_,fun i cells hi=>?_,h'.hp.inj⟩
 · rw[h'.hp.below.block k (fun hk'=>hk (ho hk')),h.hp.below.block k hk]
 · rcases h'.hp.imf b hb with g|g
   · exact h.hp.imf b g
   · exact .inr (ho g)
 · obtain⟨b,κ,c,T,g1,g2,g3,g4,g5,g6⟩:=h'.hp.live i cells hi
   exact⟨b,κ,c,T,g1,g2,g3,g4,ho g5,g6⟩
theorem OkX.region {f : FuncId} {c : Code} {k : List Item} {s s' s'' : St} {R : Goal} {ors : Ors} {ob : List Prop} {r : Nat} {es : Array MapEntry} {clock : Nat} {seen : Array Nat} (keep σ : List Nat)
    (h : regM P c s ors = some (s', ob)) (hob : AllP ob) (hl : z3h s.hp = true) (hσ : z0s σ = true) (hσl : σ.all (· < s.hp.length) = true) (hR : R.n = 0) (hs : s'' = s'.sel keep σ) (hb : AllP (CellsC s''.hp))
    (hk:OkX P f k s'' R (XI r es clock seen)):OkX P f (.code c::k) s R (XI r es clock seen):=by
 intro w0 I p a w b cs h1 h2 h3 h31 h32 h4 h5 h6
 have hlive: ∀i x,p i=some x→ ∃cells,s.hp[i]?=some (some cells):=fun i x hx=>z21 _ i hl (by
  rcases Nat.lt_or_ge i s.hp.length with hi|hi
  · exact hi
  · rw[h5 i hi]at hx;cases hx)
 have hdom: ∀i,i<s.hp.length→ ∃x,p i=some x:=fun i hi=>by
  obtain⟨c,hc⟩:=z21 _ i hl hi
  obtain⟨b,κ,_,_,g1,_⟩:=h4.hp.live i c hc
  exact⟨_,g1⟩
 obtain⟨a',w1,⟨I',p',q1,q2,q3,q4⟩,hst⟩:=z2c (P:=P) (b:=b) (k:=k) (cs:=cs) (show c.wp P (fun e a' w'=>e= .normal∧ ∃I' p',I.le I'∧SRel ⟨w,I,p⟩ s' I' p' a' w'∧z3U s' p'∧p.le p') a w from z6y h hob.mem (zdz h4) h5)
 have hat: ∀i x,(p'.at σ) i=some x→ ∃j,σ[i]?=some j∧p j=some x:=fun i x hx=>by
  simp only[Pl.at]at hx
  split at hx
  · rename_i j hj
    have hjl:j<s.hp.length:=by simpa using List.all_eq_true.1 hσl j (List.mem_of_getElem? hj)
    obtain⟨y,hy⟩:=hdom j hjl
    have:=q4 j y hy
    rw[this]at hx
    cases hx
    exact⟨j,hj,hy⟩
  · cases hx
 have q5:=zfp h4 h6.ps q2
 subst hs
 obtain⟨bm,m1,m2,m4⟩:=h6.m
 have hnb: ∀x,x<w.heap.size→(∀i κ,p i≠some (x,κ))→w1.heap[x]?=w.heap[x]?:=fun x hx hp=>q2.hp.below.block x (fun ho=>by
  rcases ho with ho|⟨i,κ,ho⟩
  · exact absurd ho (Nat.not_le.2 hx)
  · exact hp i κ ho)
 have hlt: ∀x (o:Obj),w.heap[x]?=some o→x<w.heap.size:=fun x o hx=>by
  rcases Nat.lt_or_ge x w.heap.size with g|g
  · exact g
  · rw[Array.getElem?_eq_none g]at hx;cases hx
 obtain ⟨e, w', fr, k1, k2, k3⟩ := hk w0 I' (p'.at σ) a' w1 b cs h1 h2 (Imm.le_trans h3 q1) (fun i x hx => by rw [h32 i (by omega)] at hx; cases hx) h32 ⟨z5G _ _ _ q5.tm, q5.defers, q5.hp.sel hσ hb.mem⟩ (fun i hi => by
     simp only[St.sel,List.length_map]at hi
     simp[Pl.at,List.getElem?_eq_none_iff.2 hi])
  ⟨⟨bm,(hnb bm (hlt _ _ m1) m4).trans m1,(hnb r (hlt _ _ m2) h6.pr).trans m2,fun i κ hi=>by obtain⟨j,_,hj⟩:=hat i _ hi;exact m4 j κ hj⟩,
   fun i κ hi=>by obtain⟨j,_,hj⟩:=hat i _ hi;exact h6.pr j κ hj,h6.own,fun i b κ hi=>by obtain⟨j,_,hj⟩:=hat i _ hi;exact h6.ps j b κ hj⟩
 exact⟨e,w',fr,k1,.of_steps hst k2,k3⟩
def zgC(keep σ:List Nat):Option (St×List Prop)→Option (St×List Prop)
 |some (s,ob)=>some (s.sel keep σ,ob++CellsC (σ.map fun i=>s.hp.getD i none))
 |none=>none
theorem z6n {keep σ : List Nat} {o : Option (St × List Prop)} {s : St} {ob : List Prop} (h : zgC keep σ o = some (s, ob)) :
    ∃s0 ob0,o=some (s0,ob0)∧s=s0.sel keep σ∧ob=ob0++CellsC (σ.map fun i=>s0.hp.getD i none):=by
 unfold zgC at h
 split at h
 · rename_i s0 ob0
   simp only[Option.some.injEq,Prod.mk.injEq]at h
   obtain⟨rfl,rfl⟩:=h
   exact⟨_,_,rfl,rfl,rfl⟩
 · cases h
theorem Ok.regS{f:FuncId}{c:Code}{k:List Item}{s s':St}{R:Goal}{ors:Ors}{ob:List Prop}(keep σ:List Nat)(h:zgC keep σ (Fw.regM P c s ors)=some (s',ob))(hσ:z0s σ=true)(hob:Ps ob)(hn:J0 R.n σ=true)(hk:Ok P f k s' R):Ok P f (.code c::k) s R:=by
 obtain⟨s0,ob0,h0,rfl,rfl⟩:=z6n h
 exact Ok.regM h0 hob.all.left (Ok.sel keep σ hσ hn hob.all.right hk)
theorem OkX.regS {f : FuncId} {c : Code} {k : List Item} {s s' : St} {R : Goal} {ors : Ors} {ob : List Prop} {r : Nat} {es : Array MapEntry} {clock : Nat} {seen : Array Nat} (keep σ : List Nat)
    (h : zgC keep σ (Fw.regM P c s ors) = some (s', ob)) (hσ : z0s σ = true) (hob : Ps ob) (hl : z3h s.hp = true) (hσl : σ.all (· < s.hp.length) = true) (hR : R.n = 0) (hk : OkX P f k s' R (XI r es clock seen)) : OkX P f (.code c :: k) s R (XI r es clock seen) := by
 obtain⟨s0,ob0,h0,rfl,rfl⟩:=z6n h
 exact OkX.region keep σ h0 hob.all.left hl hσ hσl hR rfl hob.all.right hk
end
end Go.Fw
