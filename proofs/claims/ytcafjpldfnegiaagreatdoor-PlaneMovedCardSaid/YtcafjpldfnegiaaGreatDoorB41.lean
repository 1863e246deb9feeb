/- A part of the proof that the law returns true for every input: an executor for the model's code, and what functions of the program compute. -/
import Derived.Test.YtcafjpldfnegiaaGreatDoorB11
import Derived.Test.YtcafjpldfnegiaaGreatDoorB15
import Derived.Test.YtcafjpldfnegiaaGreatDoorB40
import Derived.KernelRfl
open Go
namespace Go.Fw
set_option maxRecDepth 100000
theorem sign_zero_b(z:Int):(z.sign==(0:Int))=decide (z=0):=by
 rw[Bool.eq_iff_iff,beq_iff_eq,decide_eq_true_eq]
 exact Int.sign_eq_zero_iff_zero
section
variable{X Y:Nat→Int}{p q:Nat}(hp:p+q+2<1073741824)(hX: ∀i,(X i).natAbs<256^p)(hY: ∀i,(Y i).natAbs<256^q)
include hp hX hY
theorem tim_step {R : Goal} (hn : lentOk R.n [0, 1, 2, 3] = true) (i j t : Nat) (hi : i < 4) (hj : j < 4) (ht : t ≤ 20) (C : Nat → Int) (hC : ∀ k, (C k).natAbs ≤ t * 6 * 256 ^ (p + q))
    (hR:Ok P 130 (loopHead P 130 1) (timS X Y (stepC X Y i j C) i (j+1)) R):Ok P 130 (loopHead P 130 1) (timS X Y C i j) R:=by
 have hii:(0:Int)≤(i:Int)∧(i:Int)<4:=by omega
 have hjj:(0:Int)≤(j:Int)∧(j:Int)<4:=by omega
 by_cases ha:X i=0
 · rw[stepC_zero C (by rw[ha,Int.zero_mul])]at hR
   exact okS (tim_a X Y C i j hi hj) rfl (.cons hii (.cons (RSign_spec _) (.cons (by rw[sign_zero_b];exact decide_eq_true ha) (.cons (cl4_cv _) (.cons (cl4_cv _) (.cons (cl4_cv _) (.cons (cl4_cv _) .nil))))))) hn hR
 · by_cases hb:Y j=0
   · rw[stepC_zero C (by rw[hb,Int.mul_zero])]at hR
     exact okS (tim_b X Y C i j hi hj) rfl (.cons hii (.cons (RSign_spec _) (.cons (by rw[sign_zero_b];exact decide_eq_false ha) (.cons hjj (.cons (RSign_spec _) (.cons (by rw[sign_zero_b];exact decide_eq_true hb) (.cons (cl4_cv _) (.cons (cl4_cv _) (.cons (cl4_cv _) (.cons (cl4_cv _) .nil)))))))))) hn hR
   · have hm:=prod_mul_bd hX hY i j
     obtain⟨s1,s2⟩:=sq4_bd i hi j hj
     have hw:256^(p+q+1)=256*256^(p+q):=by rw[Nat.pow_succ,Nat.mul_comm]
     have hf:(sq4 i j*(X i*Y j)).natAbs<6*256^(p+q)+1:=by
      rw[Int.natAbs_mul]
      have:(sq4 i j).natAbs≤6:=by omega
      have:=Nat.mul_le_mul this (Nat.le_of_lt hm)
      omega
     have smX:SmlZ (X i):=Sml.of_lt (hX i) (by omega)
     have smY:SmlZ (Y j):=Sml.of_lt (hY j) (by omega)
     have smM:Sml ((X i).natAbs*(Y j).natAbs):=by rw[←Int.natAbs_mul];exact Sml.of_lt hm (by omega)
     have smS:SmlZ (sq4 i j):=small_word (by omega)
     have smM':SmlZ (X i*Y j):=Sml.of_lt hm (by omega)
     have hCk:=hC (i^^^j)
     have ht6:t*6*256^(p+q)≤120*256^(p+q):=Nat.mul_le_mul_right _ (by omega)
     have hpp:0<256^(p+q):=Nat.pow_pos (by decide)
     have smF:SmlZ (sq4 i j*(X i*Y j)):=Sml.of_lt (k:=p+q+1) (by omega) (by omega)
     have smF2:Sml ((sq4 i j).natAbs*(X i*Y j).natAbs):=by rw[←Int.natAbs_mul];exact smF
     have smC:SmlZ (C (i^^^j)):=Sml.of_lt (k:=p+q+1) (by omega) (by omega)
     have smA:Sml ((C (i^^^j)).natAbs+(sq4 i j*(X i*Y j)).natAbs):=Sml.of_lt (k:=p+q+1) (by omega) (by omega)
     have hx4:i^^^j<4:=Nat.xor_lt_two_pow (n:=2) (by simpa using hi) (by simpa using hj)
     exact okS (tim_c X Y C i j hi hj) rfl (.cons hii (.cons (RSign_spec _) (.cons (by rw[sign_zero_b];exact decide_eq_false ha) (.cons hjj (.cons (RSign_spec _) (.cons (by rw[sign_zero_b];exact decide_eq_false hb) (.cons (ROf_spec _ (by omega)) (.cons hii (.cons hjj
      (.cons (RMul_spec _ _ smX smY smM) (.cons (RMul_spec _ _ smS smM' smF2) (.cons (Nat.le_refl _) (.cons (by omega) (.cons (RAdd_spec _ _ smC smF smA) (.cons (by omega) (.cons (by omega) (.cons (cl4_cv _) (.cons (cl4_cv _) (.cons (cl4_cv _) (.cons (cl4_cv _) .nil)))))))))))))))))))) hn hR
theorem tim_outer {R : Goal} (hn : lentOk R.n [0, 1, 2, 3] = true) (i t : Nat) (hi : i < 4) (ht : t ≤ 16) (C : Nat → Int) (hC : ∀ k, (C k).natAbs ≤ t * 6 * 256 ^ (p + q))
    (hR:Ok P 130 (loopHead P 130 0) (timO X Y (stepC X Y i 3 (stepC X Y i 2 (stepC X Y i 1 (stepC X Y i 0 C)))) (i+1)) R):Ok P 130 (loopHead P 130 0) (timO X Y C i) R:=by
 have b0:=stepC_bd hX hY i 0 t hi (by decide) C hC
 have b1:=stepC_bd hX hY i 1 (t+1) hi (by decide) _ b0
 have b2:=stepC_bd hX hY i 2 (t+2) hi (by decide) _ b1
 have cv: ∀C:Nat→Int,Ps [CvL (cl4 X),CvL (cl4 Y),CvL (cl4 (fun _=>0)),CvL (cl4 C)]:=fun C=> .cons (cl4_cv _) (.cons (cl4_cv _) (.cons (cl4_cv _) (.cons (cl4_cv _) .nil)))
 refine okS (tim_o X Y C i hi) rfl (cv _) hn ?_
 refine tim_step hp hX hY hn i 0 t hi (by decide) (by omega) C hC ?_
 refine tim_step hp hX hY hn i 1 (t+1) hi (by decide) (by omega) _ b0 ?_
 refine tim_step hp hX hY hn i 2 (t+2) hi (by decide) (by omega) _ b1 ?_
 refine tim_step hp hX hY hn i 3 (t+3) hi (by decide) (by omega) _ b2 ?_
 exact okS (tim_e X Y _ i hi) rfl (cv _) hn hR
theorem RTimes_f : PCall P 130 [c4C (X 0) (X 1) (X 2) (X 3), c4C (Y 0) (Y 1) (Y 2) (Y 3)]
    (c4C (X 0*Y 0+2*X 1*Y 1+3*X 2*Y 2+6*X 3*Y 3) (X 0*Y 1+X 1*Y 0+3*X 2*Y 3+3*X 3*Y 2) (X 0*Y 2+X 2*Y 0+2*X 1*Y 3+2*X 3*Y 1) (X 0*Y 3+X 3*Y 0+X 1*Y 2+X 2*Y 1)):=by
 have c0: ∀k:Nat,((fun _=>0:Nat→Int) k).natAbs≤0*6*256^(p+q):=by intro k;simp
 have c1:=outer_bd hX hY 0 0 (by decide) _ c0
 have c2:=outer_bd hX hY 1 4 (by decide) _ c1
 have c3:=outer_bd hX hY 2 8 (by decide) _ c2
 refine pcallQ_eq (pcallS (tim_s X Y) rfl (.cons (cl4_cv _) (.cons (cl4_cv _) (.cons (cl4_cv _) (.cons (cl4_cv _) .nil)))) ?_)
 refine tim_outer hp hX hY rfl 0 0 (by decide) (by decide) _ c0 ?_
 refine tim_outer hp hX hY rfl 1 4 (by decide) (by decide) _ c1 ?_
 refine tim_outer hp hX hY rfl 2 8 (by decide) (by decide) _ c2 ?_
 refine tim_outer hp hX hY rfl 3 12 (by decide) (by decide) _ c3 ?_
 generalize hC:stepC X Y 3 3 _=C at*
 have e0:C 0=X 0*Y 0+2*X 1*Y 1+3*X 2*Y 2+6*X 3*Y 3:=by
  have:C 0=0+1*(X 0*Y 0)+2*(X 1*Y 1)+3*(X 2*Y 2)+6*(X 3*Y 3):=by rw[←hC];rfl
  rw[this];grind
 have e1:C 1=X 0*Y 1+X 1*Y 0+3*X 2*Y 3+3*X 3*Y 2:=by
  have:C 1=0+1*(X 0*Y 1)+1*(X 1*Y 0)+3*(X 2*Y 3)+3*(X 3*Y 2):=by rw[←hC];rfl
  rw[this];grind
 have e2:C 2=X 0*Y 2+X 2*Y 0+2*X 1*Y 3+2*X 3*Y 1:=by
  have:C 2=0+1*(X 0*Y 2)+2*(X 1*Y 3)+1*(X 2*Y 0)+2*(X 3*Y 1):=by rw[←hC];rfl
  rw[this];grind
 have e3:C 3=X 0*Y 3+X 3*Y 0+X 1*Y 2+X 2*Y 1:=by
  have:C 3=0+1*(X 0*Y 3)+1*(X 1*Y 2)+1*(X 2*Y 1)+1*(X 3*Y 0):=by rw[←hC];rfl
  rw[this];grind
 refine okR (tim_z X Y C) (.cons (Nat.le_refl _) .nil) ?_
 rw[←e0,←e1,←e2,←e3]
 rfl
end
end Go.Fw
open Go
namespace Go.Fw
set_option maxRecDepth 100000
def f4(a b c d:Int):Nat→Int
 |0=>a
 |1=>b
 |2=>c
 |_=>d
def By4(n:Nat)(a b c d:Int):Prop:=By n a∧By n b∧By n c∧By n d
theorem By4.f{n:Nat}{a b c d:Int}(h:By4 n a b c d)(i:Nat):(f4 a b c d i).natAbs<256^n:=by
 obtain⟨h0,h1,h2,h3⟩:=h
 match i with
 |0=>exact h0
 |1=>exact h1
 |2=>exact h2
 |n+3=>exact h3
theorem RTimes_n (a0 a1 a2 a3 b0 b1 b2 b3 : Int) (hp : ∃ n, n ≤ 500000000 ∧ By4 n a0 a1 a2 a3 ∧ By4 n b0 b1 b2 b3) : PCall P 130 [c4C a0 a1 a2 a3, c4C b0 b1 b2 b3]
    (c4C (a0*b0+2*a1*b1+3*a2*b2+6*a3*b3) (a0*b1+a1*b0+3*a2*b3+3*a3*b2) (a0*b2+a2*b0+2*a1*b3+2*a3*b1) (a0*b3+a3*b0+a1*b2+a2*b1)):=by
 obtain⟨n,hn,ha,hb⟩:=hp
 exact RTimes_f (X:=f4 a0 a1 a2 a3) (Y:=f4 b0 b1 b2 b3) (p:=n) (q:=n) (by omega) ha.f hb.f
end Go.Fw
open Go IntKind
namespace Go.Fw
set_option maxRecDepth 100000
theorem rkm_p1(x y:K)(g1:sm3B x=false)(s4_0:x.sz≤1000000)(s8_0:y.sz≤1000000)(s26_0: ∃n,n≤500000000∧By4 n x.c0 x.c1 x.c2 x.c3∧By4 n y.c0 y.c1 y.c2 y.c3)(s31_0:Sml x.d.natAbs)(s31_1:Sml y.d.natAbs)(s31_2:Sml (x.d.natAbs*y.d.natAbs))(s32_0:x.d*y.d≠0)(s32_1:SmlZ (x.c0*y.c0+2*x.c1*y.c1+3*x.c2*y.c2+6*x.c3*y.c3))(s32_2:SmlZ (x.c0*y.c1+x.c1*y.c0+3*x.c2*y.c3+3*x.c3*y.c2))(s32_3:SmlZ (x.c0*y.c2+x.c2*y.c0+2*x.c1*y.c3+2*x.c3*y.c1))(s32_4:SmlZ (x.c0*y.c3+x.c3*y.c0+x.c1*y.c2+x.c2*y.c1))(s32_5:SmlZ (x.d*y.d)):PCall P 38 [numC x,numC y] (numC (K.of (x.c0*y.c0+2*x.c1*y.c1+3*x.c2*y.c2+6*x.c3*y.c3) (x.c0*y.c1+x.c1*y.c0+3*x.c2*y.c3+3*x.c3*y.c2) (x.c0*y.c2+x.c2*y.c0+2*x.c1*y.c3+2*x.c3*y.c1) (x.c0*y.c3+x.c3*y.c0+x.c1*y.c2+x.c2*y.c1) (x.d*y.d))):=
 pcallT (.r 4 (RVal_K (x) s4_0) (.r 8 (RVal_K (y) s8_0) (.r 13 (words_a (x)) (.c (lq 5 5) (.b 21 g1 (.r 26 (RTimes_n (x.c0) (x.c1) (x.c2) (x.c3) (y.c0) (y.c1) (y.c2) (y.c3) s26_0) (.r 31 (RMul_spec (x.d) (y.d) s31_0 s31_1 s31_2) (.r 32 (RRed_K (x.c0*y.c0+2*x.c1*y.c1+3*x.c2*y.c2+6*x.c3*y.c3) (x.c0*y.c1+x.c1*y.c0+3*x.c2*y.c3+3*x.c3*y.c2) (x.c0*y.c2+x.c2*y.c0+2*x.c1*y.c3+2*x.c3*y.c1) (x.c0*y.c3+x.c3*y.c0+x.c1*y.c2+x.c2*y.c1) (x.d*y.d) s32_0 s32_1 s32_2 s32_3 s32_4 s32_5) (.c (lq 10 10) .nil))))))))) (by kernel_rfl)
theorem rkl_p1(x y:K)(g1:sm3B x=true)(g2:sm3B y=false)(s4_0:x.sz≤1000000)(s8_0:y.sz≤1000000)(s36_0: ∃n,n≤500000000∧By4 n x.c0 x.c1 x.c2 x.c3∧By4 n y.c0 y.c1 y.c2 y.c3)(s41_0:Sml x.d.natAbs)(s41_1:Sml y.d.natAbs)(s41_2:Sml (x.d.natAbs*y.d.natAbs))(s42_0:x.d*y.d≠0)(s42_1:SmlZ (x.c0*y.c0+2*x.c1*y.c1+3*x.c2*y.c2+6*x.c3*y.c3))(s42_2:SmlZ (x.c0*y.c1+x.c1*y.c0+3*x.c2*y.c3+3*x.c3*y.c2))(s42_3:SmlZ (x.c0*y.c2+x.c2*y.c0+2*x.c1*y.c3+2*x.c3*y.c1))(s42_4:SmlZ (x.c0*y.c3+x.c3*y.c0+x.c1*y.c2+x.c2*y.c1))(s42_5:SmlZ (x.d*y.d)):PCall P 38 [numC x,numC y] (numC (K.of (x.c0*y.c0+2*x.c1*y.c1+3*x.c2*y.c2+6*x.c3*y.c3) (x.c0*y.c1+x.c1*y.c0+3*x.c2*y.c3+3*x.c3*y.c2) (x.c0*y.c2+x.c2*y.c0+2*x.c1*y.c3+2*x.c3*y.c1) (x.c0*y.c3+x.c3*y.c0+x.c1*y.c2+x.c2*y.c1) (x.d*y.d))):=
 pcallT (.r 4 (RVal_K (x) s4_0) (.r 8 (RVal_K (y) s8_0) (.r 13 (words_a (x)) (.c (lq 5 5) (.b 21 g1 (.r 23 (words_a (y)) (.c (lq 5 5) (.b 31 g2 (.r 36 (RTimes_n (x.c0) (x.c1) (x.c2) (x.c3) (y.c0) (y.c1) (y.c2) (y.c3) s36_0) (.r 41 (RMul_spec (x.d) (y.d) s41_0 s41_1 s41_2) (.r 42 (RRed_K (x.c0*y.c0+2*x.c1*y.c1+3*x.c2*y.c2+6*x.c3*y.c3) (x.c0*y.c1+x.c1*y.c0+3*x.c2*y.c3+3*x.c3*y.c2) (x.c0*y.c2+x.c2*y.c0+2*x.c1*y.c3+2*x.c3*y.c1) (x.c0*y.c3+x.c3*y.c0+x.c1*y.c2+x.c2*y.c1) (x.d*y.d) s42_0 s42_1 s42_2 s42_3 s42_4 s42_5) (.c (lq 10 10) .nil)))))))))))) (by kernel_rfl)
end Go.Fw
open Go
namespace Go.Fw
set_option maxRecDepth 100000
theorem prod_sml {n : Nat} (hn : n + n + 1 < 1073741824) {a0 a1 a2 a3 b0 b1 b2 b3 : Int} (ha : By4 n a0 a1 a2 a3) (hb : By4 n b0 b1 b2 b3) :
    SmlZ (a0*b0+2*a1*b1+3*a2*b2+6*a3*b3)∧SmlZ (a0*b1+a1*b0+3*a2*b3+3*a3*b2)∧SmlZ (a0*b2+a2*b0+2*a1*b3+2*a3*b1)∧SmlZ (a0*b3+a3*b0+a1*b2+a2*b1):=by
 obtain⟨x0,x1,x2,x3⟩:=ha
 obtain⟨y0,y1,y2,y3⟩:=hb
 have c:=fun(k a b:Int)=>Int.mul_assoc k a b
 have key: ∀{a b:Int},By n a→By n b→(a*b).natAbs<256^(n+n):=fun ha hb=>ha.mul hb
 obtain⟨M,hM⟩: ∃M,M=256^(n+n):=⟨_,rfl⟩
 have fin: ∀z:Int,z.natAbs<256*M→SmlZ z:=fun z hz=>Sml.of_lt (k:=n+n+1) (by rw[Nat.pow_succ,←hM,Nat.mul_comm];exact hz) hn
 refine⟨fin _ ?_,fin _ ?_,fin _ ?_,fin _ ?_⟩
 · have h1:=key x0 y0;have h2:=key x1 y1;have h3:=key x2 y2;have h4:=key x3 y3
   rw[←hM]at h1 h2 h3 h4
   rw[c,c,c];omega
 · have h1:=key x0 y1;have h2:=key x1 y0;have h3:=key x2 y3;have h4:=key x3 y2
   rw[←hM]at h1 h2 h3 h4
   rw[c,c];omega
 · have h1:=key x0 y2;have h2:=key x2 y0;have h3:=key x1 y3;have h4:=key x3 y1
   rw[←hM]at h1 h2 h3 h4
   rw[c,c];omega
 · have h1:=key x0 y3;have h2:=key x3 y0;have h3:=key x1 y2;have h4:=key x2 y1
   rw[←hM]at h1 h2 h3 h4
   omega
theorem RMul_K(x y:K)(hx:x.sz≤1000000)(hy:y.sz≤1000000):PCall P 38 [numC x,numC y] (numC (x*y)):=by
 have hxs:=hx
 have hys:=hy
 obtain⟨x0,x1,x2,x3,xd⟩:=By.of_sz hx
 obtain⟨y0,y1,y2,y3,yd⟩:=By.of_sz hy
 have L:(1000000:Nat)<1073741824:=by decide
 have L2:(1000000:Nat)+1000000<1073741824:=by decide
 have hb:By4 1000000 x.c0 x.c1 x.c2 x.c3:=⟨x0,x1,x2,x3⟩
 have hb':By4 1000000 y.c0 y.c1 y.c2 y.c3:=⟨y0,y1,y2,y3⟩
 obtain⟨s0,s1,s2,s3⟩:=prod_sml (by decide) hb hb'
 have hex: ∃n,n≤500000000∧By4 n x.c0 x.c1 x.c2 x.c3∧By4 n y.c0 y.c1 y.c2 y.c3:=⟨1000000,by decide,hb,hb'⟩
 have dn:x.d*y.d≠0:=Int.mul_ne_zero x.d_ne y.d_ne
 cases h1:sm3B x
 · exact rkm_p1 x y h1 hxs hys hex (xd.sml L) (yd.sml L) (xd.sm2 yd L2) dn s0 s1 s2 s3 ((xd.mul yd).sml L2)
 · cases h2:sm3B y
   · exact rkl_p1 x y h1 h2 hxs hys hex (xd.sml L) (yd.sml L) (xd.sm2 yd L2) dn s0 s1 s2 s3 ((xd.mul yd).sml L2)
   · exact RMul_s x y (sm3B_true h1) (sm3B_true h2)
theorem RSub_K(x y:K)(hx:x.sz≤1000000)(hy:y.sz≤1000000):PCall P 39 [numC x,numC y] (numC (x-y)):=rks_p1 x y hy hx (by rw[K.sz_neg];exact hy)
end Go.Fw
open Go IntKind
namespace Go.Fw
set_option maxRecDepth 100000
theorem FSub_p1(x y:K)(s5_0:Smk y)(s6_0:x.sz+(-y).sz+2<1073741824):PCall P 135 [numC x,numC y] (numC (x+ -y)):=
 pcallT (.r 5 (FNeg_K (y) s5_0) (.r 6 (FAdd_K (x) (-y) s6_0) (.c (lq 10 10) .nil))) (by kernel_rfl)
theorem WRi_p1(x y z:K)(s4_0:Smk x)(s8_0:Smk y)(s13_0:Smk z):PCall P 134 [vecC x y z] (.lit (.bool true)):=
 pcallT (.r 4 (FValid_K (x) s4_0) (.r 8 (FValid_K (y) s8_0) (.r 13 (FValid_K (z) s13_0) .nil))) (by kernel_rfl)
end Go.Fw
open Go
namespace Go.Fw
theorem FSub_K(x y:K)(h:x.sz+y.sz+2<1073741824):PCall P 135 [numC x,numC y] (numC (x-y)):=FSub_p1 x y (by simp only[Smk];omega) (by rw[K.sz_neg];exact h)
end Go.Fw
open Go IntKind
namespace Go.Fw
set_option maxRecDepth 100000
theorem WTu_p1(x y z:K)(i:Int)(s3_0:Smk x)(s3_1:Smk y)(s3_2:Smk z)(s17_0:x.sz+(cosK i).sz+2<1073741824)(s21_0:y.sz+(sinK i).sz+2<1073741824)(s22_0:(x*cosK i).sz+(y*sinK i).sz+2<1073741824)(s26_0:x.sz+(sinK i).sz+2<1073741824)(s30_0:y.sz+(cosK i).sz+2<1073741824)(s31_0:(x*sinK i).sz+(y*cosK i).sz+2<1073741824):PCall P 49 [vecC x y z,ci64 i] (vecC (x*cosK i-y*sinK i) (x*sinK i+y*cosK i) z):=
 pcallT (.r 3 (WRi_p1 (x) (y) (z) s3_0 s3_1 s3_2) (.r 7 (WCos_spec (i)) (.r 9 (WSin_spec (i)) (.c (lq 10 10) (.c (lq 10 10) (.r 17 (FMul_K (x) (cosK i) s17_0) (.r 21 (FMul_K (y) (sinK i) s21_0) (.r 22 (FSub_K (x*cosK i) (y*sinK i) s22_0) (.r 26 (FMul_K (x) (sinK i) s26_0) (.r 30 (FMul_K (y) (cosK i) s30_0) (.r 31 (FAdd_K (x*sinK i) (y*cosK i) s31_0) (.c (lq 30 30) .nil)))))))))))) (by kernel_rfl)
theorem WFl_p1(x y z:K)(s3_0:Smk x)(s3_1:Smk y)(s3_2:Smk z)(s8_0:Smk y):PCall P 51 [vecC x y z] (vecC x (-y) z):=
 pcallT (.r 3 (WRi_p1 (x) (y) (z) s3_0 s3_1 s3_2) (.r 8 (FNeg_K (y) s8_0) (.c (lq 20 30) (.c (lq 30 30) .nil)))) (by kernel_rfl)
end Go.Fw
open Go
namespace Go.Fw
set_option maxRecDepth 100000
theorem sz_small{x:K}(h:sm3b x=true):x.sz≤1:=by
 simp only[sm3b,Bool.and_eq_true,decide_eq_true_eq]at h
 rw[K.sz_le]
 exact⟨h.1.1.1.1,h.1.1.1.2,h.1.1.2,h.1.2,h.2⟩
theorem sz_cos(i:Int):(cosK i).sz≤1:=by
 obtain⟨a,ha⟩:=ex24 i
 rw[cos_at ha];exact sz_small (circ4 a).1
theorem sz_sin(i:Int):(sinK i).sz≤1:=by
 obtain⟨a,ha⟩:=ex24 i
 rw[sin_at ha];exact sz_small (circ4 a).2
theorem WTurn_K (x y z : K) (i : Int) (hx : x.sz ≤ 1000000) (hy : y.sz ≤ 1000000) (hz : z.sz ≤ 1000000) :
    PCall P 49 [vecC x y z,ci64 i] (vecC (x*cosK i-y*sinK i) (x*sinK i+y*cosK i) z):=by
 have c:=sz_cos i
 have s:=sz_sin i
 have m1:=K.sz_mul x (cosK i)
 have m2:=K.sz_mul y (sinK i)
 have m3:=K.sz_mul x (sinK i)
 have m4:=K.sz_mul y (cosK i)
 exact WTu_p1 x y z i (by simp only[Smk];omega) (by simp only[Smk];omega) (by simp only[Smk];omega) (by omega) (by omega) (by omega) (by omega) (by omega) (by omega)
theorem WFlip_K(x y z:K)(hx:x.sz≤1000000)(hy:y.sz≤1000000)(hz:z.sz≤1000000):PCall P 51 [vecC x y z] (vecC x (-y) z):=
 WFl_p1 x y z (by simp only[Smk];omega) (by simp only[Smk];omega) (by simp only[Smk];omega) (by simp only[Smk];omega)
end Go.Fw
open Go IntKind
namespace Go.Fw
set_option maxRecDepth 100000
theorem WMv_p1(x y z:K)(t:Int)(b:Bool)(h1:(validM t)=true)(h2:(b)=true)(s11_0:x.sz≤1000000)(s11_1:y.sz≤1000000)(s11_2:z.sz≤1000000)(s16_0:x.sz≤1000000)(s16_1:(-y).sz≤1000000)(s16_2:z.sz≤1000000):PCall P 53 [vecC x y z,.agg [ci64 t,.lit (.bool b)]] (.agg [.lit (.bool (decide ((x*cosK t- -y*sinK t).c0<0))),.lit (.string (bytesOf (x*cosK t- -y*sinK t).c0.natAbs)),.lit (.bool (decide ((x*cosK t- -y*sinK t).c1<0))),.lit (.string (bytesOf (x*cosK t- -y*sinK t).c1.natAbs)),.lit (.bool (decide ((x*cosK t- -y*sinK t).c2<0))),.lit (.string (bytesOf (x*cosK t- -y*sinK t).c2.natAbs)),.lit (.bool (decide ((x*cosK t- -y*sinK t).c3<0))),.lit (.string (bytesOf (x*cosK t- -y*sinK t).c3.natAbs)),.lit (.bool (decide ((x*cosK t- -y*sinK t).d<0))),.lit (.string (bytesOf (x*cosK t- -y*sinK t).d.natAbs)),.lit (.bool (decide ((x*sinK t+ -y*cosK t).c0<0))),.lit (.string (bytesOf (x*sinK t+ -y*cosK t).c0.natAbs)),.lit (.bool (decide ((x*sinK t+ -y*cosK t).c1<0))),.lit (.string (bytesOf (x*sinK t+ -y*cosK t).c1.natAbs)),.lit (.bool (decide ((x*sinK t+ -y*cosK t).c2<0))),.lit (.string (bytesOf (x*sinK t+ -y*cosK t).c2.natAbs)),.lit (.bool (decide ((x*sinK t+ -y*cosK t).c3<0))),.lit (.string (bytesOf (x*sinK t+ -y*cosK t).c3.natAbs)),.lit (.bool (decide ((x*sinK t+ -y*cosK t).d<0))),.lit (.string (bytesOf (x*sinK t+ -y*cosK t).d.natAbs)),.lit (.bool (decide (z.c0<0))),.lit (.string (bytesOf z.c0.natAbs)),.lit (.bool (decide (z.c1<0))),.lit (.string (bytesOf z.c1.natAbs)),.lit (.bool (decide (z.c2<0))),.lit (.string (bytesOf z.c2.natAbs)),.lit (.bool (decide (z.c3<0))),.lit (.string (bytesOf z.c3.natAbs)),.lit (.bool (decide (z.d<0))),.lit (.string (bytesOf z.d.natAbs))]):=
 pcallT (.r 4 ((WValid_spec (t) (b)).eqB h1) (.b 9 h2 (.r 11 (WFlip_K (x) (y) (z) s11_0 s11_1 s11_2) (.c (lq 30 30) (.r 16 (WTurn_K (x) (-y) (z) (t) s16_0 s16_1 s16_2) (.c (lq 30 30) .nil)))))) (by kernel_rfl)
theorem WMv_p2(x y z:K)(t:Int)(b:Bool)(h1:(validM t)=true)(h2:(b)=false)(s13_0:x.sz≤1000000)(s13_1:y.sz≤1000000)(s13_2:z.sz≤1000000):PCall P 53 [vecC x y z,.agg [ci64 t,.lit (.bool b)]] (.agg [.lit (.bool (decide ((x*cosK t-y*sinK t).c0<0))),.lit (.string (bytesOf (x*cosK t-y*sinK t).c0.natAbs)),.lit (.bool (decide ((x*cosK t-y*sinK t).c1<0))),.lit (.string (bytesOf (x*cosK t-y*sinK t).c1.natAbs)),.lit (.bool (decide ((x*cosK t-y*sinK t).c2<0))),.lit (.string (bytesOf (x*cosK t-y*sinK t).c2.natAbs)),.lit (.bool (decide ((x*cosK t-y*sinK t).c3<0))),.lit (.string (bytesOf (x*cosK t-y*sinK t).c3.natAbs)),.lit (.bool (decide ((x*cosK t-y*sinK t).d<0))),.lit (.string (bytesOf (x*cosK t-y*sinK t).d.natAbs)),.lit (.bool (decide ((x*sinK t+y*cosK t).c0<0))),.lit (.string (bytesOf (x*sinK t+y*cosK t).c0.natAbs)),.lit (.bool (decide ((x*sinK t+y*cosK t).c1<0))),.lit (.string (bytesOf (x*sinK t+y*cosK t).c1.natAbs)),.lit (.bool (decide ((x*sinK t+y*cosK t).c2<0))),.lit (.string (bytesOf (x*sinK t+y*cosK t).c2.natAbs)),.lit (.bool (decide ((x*sinK t+y*cosK t).c3<0))),.lit (.string (bytesOf (x*sinK t+y*cosK t).c3.natAbs)),.lit (.bool (decide ((x*sinK t+y*cosK t).d<0))),.lit (.string (bytesOf (x*sinK t+y*cosK t).d.natAbs)),.lit (.bool (decide (z.c0<0))),.lit (.string (bytesOf z.c0.natAbs)),.lit (.bool (decide (z.c1<0))),.lit (.string (bytesOf z.c1.natAbs)),.lit (.bool (decide (z.c2<0))),.lit (.string (bytesOf z.c2.natAbs)),.lit (.bool (decide (z.c3<0))),.lit (.string (bytesOf z.c3.natAbs)),.lit (.bool (decide (z.d<0))),.lit (.string (bytesOf z.d.natAbs))]):=
 pcallT (.r 4 ((WValid_spec (t) (b)).eqB h1) (.b 9 h2 (.r 13 (WTurn_K (x) (y) (z) (t) s13_0 s13_1 s13_2) (.c (lq 30 30) .nil)))) (by kernel_rfl)
end Go.Fw
open Go
namespace Go.Fw
set_option maxRecDepth 100000
def mvX(x y:K)(t:Int)(b:Bool):K:=x*cosK t-(if b then-y else y)*sinK t
def mvY(x y:K)(t:Int)(b:Bool):K:=x*sinK t+(if b then-y else y)*cosK t
def zeroNum:List CV:=[.lit (.bool false),cstr ⟨#[]⟩,.lit (.bool false),cstr ⟨#[]⟩,.lit (.bool false),cstr ⟨#[]⟩,.lit (.bool false),cstr ⟨#[]⟩,.lit (.bool false),cstr ⟨#[]⟩]
def zeroVec:CV:= .agg (zeroNum++(zeroNum++zeroNum))
theorem WMove_K (x y z : K) (t : Int) (b : Bool) (ht : validM t = true) (hx : x.sz ≤ 1000000) (hy : y.sz ≤ 1000000) (hz : z.sz ≤ 1000000) :
    PCall P 53 [vecC x y z,.agg [ci64 t,.lit (.bool b)]] (vecC (mvX x y t b) (mvY x y t b) z):=by
 cases b with
 |true=>exact WMv_p1 x y z t true ht rfl hx hy hz hx (by rw[K.sz_neg];exact hy) hz
 |false=>exact WMv_p2 x y z t false ht rfl hx hy hz
end Go.Fw
open Go
namespace Go.Fw
set_option maxRecDepth 100000
def raw3(n:Nat)(x y z:RN):Bool:=x.raw n&&(y.raw n&&z.raw n)
def ok3(x y z:RN):Bool:=x.ok&&(y.ok&&z.ok)
theorem raw3_iff{n:Nat}{x y z:RN}:raw3 n x y z=true↔x.raw n=true∧y.raw n=true∧z.raw n=true:=by simp[raw3]
theorem RN.raw_mono{x:RN}{n m:Nat}(h:x.raw n=true)(hm:n≤m):x.raw m=true:=by
 unfold RN.raw at h ⊢
 simp only[Bool.and_eq_true,decide_eq_true_eq]at h ⊢
 omega
theorem RRi_c(x y z:RN)(h:raw3 1000000 x y z=true):PCall P 138 [vecR x y z] (.lit (.bool (ok3 x y z))):=by
 obtain⟨hx,hy,hz⟩:=raw3_iff.1 h
 unfold ok3
 cases ex:x.ok
 · exact rri_p4 x y z ex hx
 · cases ey:y.ok
   · exact rri_p3 x y z ex ey hx hy
   · cases ez:z.ok
     · exact rri_p2 x y z ex ey ez hx hy hz
     · exact rri_p1 x y z ex ey ez hx hy hz
theorem WRi_c(x y z:RN)(h:raw3 1000000 x y z=true):PCall P 134 [vecR x y z] (.lit (.bool (ok3 x y z))):=by
 obtain⟨hx,hy,hz⟩:=raw3_iff.1 h
 unfold ok3
 cases ex:x.ok
 · exact wri_p4 x y z ex hx
 · cases ey:y.ok
   · exact wri_p3 x y z ex ey hx hy
   · cases ez:z.ok
     · exact wri_p2 x y z ex ey ez hx hy hz
     · exact wri_p1 x y z ex ey ez hx hy hz
theorem RRi_K(x y z:K)(hx:x.sz≤1000000)(hy:y.sz≤1000000)(hz:z.sz≤1000000):PCall P 138 [vecC x y z] (.lit (.bool true)):=by
 have:=RRi_c (.ofK x) (.ofK y) (.ofK z) (raw3_iff.2 ⟨RN.ofK_raw x hx,RN.ofK_raw y hy,RN.ofK_raw z hz⟩)
 unfold ok3 at this
 rw[RN.ofK_ok,RN.ofK_ok,RN.ofK_ok]at this
 exact this
end Go.Fw
open Go IntKind
namespace Go.Fw
set_option maxRecDepth 100000
theorem rTuB_p1(x y z:RN)(i:Int)(g:ok3 x y z=false)(s3_0:raw3 1000000 x y z=true):PCall P 50 [vecR x y z,ci64 i] zeroVec:=
 pcallT (.r 3 ((RRi_c (x) (y) (z) s3_0).eqB g) (.c (lq 30 30) .nil)) (by kernel_rfl)
theorem rFlB_p1(x y z:RN)(g:ok3 x y z=false)(s3_0:raw3 1000000 x y z=true):PCall P 52 [vecR x y z] zeroVec:=
 pcallT (.r 3 ((RRi_c (x) (y) (z) s3_0).eqB g) (.c (lq 30 30) .nil)) (by kernel_rfl)
theorem wTuB_p1(x y z:RN)(i:Int)(g:ok3 x y z=false)(s3_0:raw3 1000000 x y z=true):PCall P 49 [vecR x y z,ci64 i] zeroVec:=
 pcallT (.r 3 ((WRi_c (x) (y) (z) s3_0).eqB g) (.c (lq 30 30) .nil)) (by kernel_rfl)
theorem wFlB_p1(x y z:RN)(g:ok3 x y z=false)(s3_0:raw3 1000000 x y z=true):PCall P 51 [vecR x y z] zeroVec:=
 pcallT (.r 3 ((WRi_c (x) (y) (z) s3_0).eqB g) (.c (lq 30 30) .nil)) (by kernel_rfl)
theorem rTuK_p1(x y z:K)(i:Int)(s3_0:x.sz≤1000000)(s3_1:y.sz≤1000000)(s3_2:z.sz≤1000000)(s17_0:(cosK i).sz≤1000000)(s17_1:x.sz≤1000000)(s21_0:(sinK i).sz≤1000000)(s21_1:y.sz≤1000000)(s22_0:(cosK i*x).sz≤1000000)(s22_1:(sinK i*y).sz≤1000000)(s26_0:(sinK i).sz≤1000000)(s26_1:x.sz≤1000000)(s30_0:(cosK i).sz≤1000000)(s30_1:y.sz≤1000000)(s31_0:(sinK i*x).sz≤1000000)(s31_1:(cosK i*y).sz≤1000000):PCall P 50 [vecC x y z,ci64 i] (vecC (cosK i*x-sinK i*y) (sinK i*x+cosK i*y) z):=
 pcallT (.r 3 (RRi_K (x) (y) (z) s3_0 s3_1 s3_2) (.r 7 (RCos_spec (i)) (.r 9 (RSin_spec (i)) (.c (lq 10 10) (.c (lq 10 10) (.r 17 (RMul_K (cosK i) (x) s17_0 s17_1) (.r 21 (RMul_K (sinK i) (y) s21_0 s21_1) (.r 22 (RSub_K (cosK i*x) (sinK i*y) s22_0 s22_1) (.r 26 (RMul_K (sinK i) (x) s26_0 s26_1) (.r 30 (RMul_K (cosK i) (y) s30_0 s30_1) (.r 31 (RAdd_K (sinK i*x) (cosK i*y) s31_0 s31_1) (.c (lq 30 30) .nil)))))))))))) (by kernel_rfl)
theorem rFlK_p1(x y z:K)(s3_0:x.sz≤1000000)(s3_1:y.sz≤1000000)(s3_2:z.sz≤1000000)(s10_0:y.sz≤1000000):PCall P 52 [vecC x y z] (vecC x (-y) z):=
 pcallT (.r 3 (RRi_K (x) (y) (z) s3_0 s3_1 s3_2) (.r 10 (RNeg_K (y) s10_0) (.c (lq 30 30) .nil))) (by kernel_rfl)
end Go.Fw
open Go
namespace Go.Fw
set_option maxRecDepth 100000
theorem cstr_inj{a b:ByteArray}(h:cstr a=cstr b):a=b:=by injection h with h;injection h
theorem l_sz{x:RN}{k:K}{n:Nat}(h:x.l=numL k)(hr:x.raw n=true):k.sz≤n:=by
 unfold RN.l numL at h
 simp only[List.cons.injEq,and_true]at h
 obtain⟨_,e0,_,e1,_,e2,_,e3,_,e4⟩:=h
 have f0:=cstr_inj e0
 have f1:=cstr_inj e1
 have f2:=cstr_inj e2
 have f3:=cstr_inj e3
 have f4:=cstr_inj e4
 unfold RN.raw at hr
 simp only[Bool.and_eq_true,decide_eq_true_eq]at hr
 rw[f0,f1,f2,f3,f4]at hr
 exact K.sz_le.2 ⟨size_le.1 hr.1.1.1.1,size_le.1 hr.1.1.1.2,size_le.1 hr.1.1.2,size_le.1 hr.1.2,size_le.1 hr.2⟩
def RN.zero:RN:=⟨false,⟨#[]⟩,false,⟨#[]⟩,false,⟨#[]⟩,false,⟨#[]⟩,false,⟨#[]⟩⟩
theorem zero_bad:ok3 .zero .zero .zero=false:=by decide
theorem zero_raw:raw3 1000000 .zero .zero .zero=true:=by decide
theorem WTu_bad(x y z:RN)(i:Int)(g:ok3 x y z=false)(h:raw3 1000000 x y z=true):PCall P 49 [vecR x y z,ci64 i] zeroVec:=wTuB_p1 x y z i g h
theorem WFl_bad(x y z:RN)(g:ok3 x y z=false)(h:raw3 1000000 x y z=true):PCall P 51 [vecR x y z] zeroVec:=wFlB_p1 x y z g h
theorem RTu_bad(x y z:RN)(i:Int)(g:ok3 x y z=false)(h:raw3 1000000 x y z=true):PCall P 50 [vecR x y z,ci64 i] zeroVec:=rTuB_p1 x y z i g h
theorem RFl_bad(x y z:RN)(g:ok3 x y z=false)(h:raw3 1000000 x y z=true):PCall P 52 [vecR x y z] zeroVec:=rFlB_p1 x y z g h
theorem WTu_zero(i:Int):PCall P 49 [zeroVec,ci64 i] zeroVec:=WTu_bad .zero .zero .zero i zero_bad zero_raw
theorem RTu_zero(i:Int):PCall P 50 [zeroVec,ci64 i] zeroVec:=RTu_bad .zero .zero .zero i zero_bad zero_raw
theorem RTurn_K (x y z : K) (i : Int) (hx : x.sz ≤ 100000) (hy : y.sz ≤ 100000) (hz : z.sz ≤ 100000) :
    PCall P 50 [vecC x y z,ci64 i] (vecC (x*cosK i-y*sinK i) (x*sinK i+y*cosK i) z):=by
 have c:=sz_cos i
 have s:=sz_sin i
 have m1:=K.sz_mul (cosK i) x
 have m2:=K.sz_mul (sinK i) y
 have m3:=K.sz_mul (sinK i) x
 have m4:=K.sz_mul (cosK i) y
 rw[K.mul_comm x,K.mul_comm y,K.mul_comm x,K.mul_comm y]
 exact rTuK_p1 x y z i (by omega) (by omega) (by omega) (by omega) (by omega) (by omega) (by omega) (by omega) (by omega) (by omega) (by omega) (by omega) (by omega) (by omega) (by omega)
theorem RFlip_K(x y z:K)(hx:x.sz≤1000000)(hy:y.sz≤1000000)(hz:z.sz≤1000000):PCall P 52 [vecC x y z] (vecC x (-y) z):=rFlK_p1 x y z hx hy hz hy
end Go.Fw
open Go IntKind
namespace Go.Fw
set_option maxRecDepth 100000
theorem wMvB_p1(x y z:RN)(t:Int)(b:Bool)(g:ok3 x y z=false)(h1:(validM t)=true)(h2:(b)=true)(s11_0:raw3 1000000 x y z=true):PCall P 53 [vecR x y z,.agg [ci64 t,.lit (.bool b)]] zeroVec:=
 pcallT (.r 4 ((WValid_spec (t) (b)).eqB h1) (.b 9 h2 (.r 11 (WFl_bad (x) (y) (z) g s11_0) (.c (lq 30 30) (.r 16 (WTu_zero (t)) (.c (lq 30 30) .nil)))))) (by kernel_rfl)
theorem wMvB_p2(x y z:RN)(t:Int)(b:Bool)(g:ok3 x y z=false)(h1:(validM t)=true)(h2:(b)=false)(s13_0:raw3 1000000 x y z=true):PCall P 53 [vecR x y z,.agg [ci64 t,.lit (.bool b)]] zeroVec:=
 pcallT (.r 4 ((WValid_spec (t) (b)).eqB h1) (.b 9 h2 (.r 13 (WTu_bad (x) (y) (z) (t) g s13_0) (.c (lq 30 30) .nil)))) (by kernel_rfl)
theorem wMvB_p3(x y z:RN)(t:Int)(b:Bool)(_g:ok3 x y z=false)(h1:(validM t)=false):PCall P 53 [vecR x y z,.agg [ci64 t,.lit (.bool b)]] zeroVec:=
 pcallT (.r 4 ((WValid_spec (t) (b)).eqB h1) (.c (lq 30 30) .nil)) (by kernel_rfl)
theorem rMvB_p1(x y z:RN)(t:Int)(b:Bool)(g:ok3 x y z=false)(h1:(validM t)=true)(h2:(b)=true)(s11_0:raw3 1000000 x y z=true):PCall P 54 [vecR x y z,.agg [ci64 t,.lit (.bool b)]] zeroVec:=
 pcallT (.r 4 ((RValidM_spec (t) (b)).eqB h1) (.b 9 h2 (.r 11 (RFl_bad (x) (y) (z) g s11_0) (.c (lq 30 30) (.r 16 (RTu_zero (t)) (.c (lq 30 30) .nil)))))) (by kernel_rfl)
theorem rMvB_p2(x y z:RN)(t:Int)(b:Bool)(g:ok3 x y z=false)(h1:(validM t)=true)(h2:(b)=false)(s13_0:raw3 1000000 x y z=true):PCall P 54 [vecR x y z,.agg [ci64 t,.lit (.bool b)]] zeroVec:=
 pcallT (.r 4 ((RValidM_spec (t) (b)).eqB h1) (.b 9 h2 (.r 13 (RTu_bad (x) (y) (z) (t) g s13_0) (.c (lq 30 30) .nil)))) (by kernel_rfl)
theorem rMvB_p3(x y z:RN)(t:Int)(b:Bool)(_g:ok3 x y z=false)(h1:(validM t)=false):PCall P 54 [vecR x y z,.agg [ci64 t,.lit (.bool b)]] zeroVec:=
 pcallT (.r 4 ((RValidM_spec (t) (b)).eqB h1) (.c (lq 30 30) .nil)) (by kernel_rfl)
theorem rMvK_p1(x y z:K)(t:Int)(b:Bool)(h1:(validM t)=true)(h2:(b)=true)(s11_0:x.sz≤1000000)(s11_1:y.sz≤1000000)(s11_2:z.sz≤1000000)(s16_0:x.sz≤100000)(s16_1:(-y).sz≤100000)(s16_2:z.sz≤100000):PCall P 54 [vecC x y z,.agg [ci64 t,.lit (.bool b)]] (vecC (x*cosK t- -y*sinK t) (x*sinK t+ -y*cosK t) z):=
 pcallT (.r 4 ((RValidM_spec (t) (b)).eqB h1) (.b 9 h2 (.r 11 (RFlip_K (x) (y) (z) s11_0 s11_1 s11_2) (.c (lq 30 30) (.r 16 (RTurn_K (x) (-y) (z) (t) s16_0 s16_1 s16_2) (.c (lq 30 30) .nil)))))) (by kernel_rfl)
theorem rMvK_p2(x y z:K)(t:Int)(b:Bool)(h1:(validM t)=true)(h2:(b)=false)(s13_0:x.sz≤100000)(s13_1:y.sz≤100000)(s13_2:z.sz≤100000):PCall P 54 [vecC x y z,.agg [ci64 t,.lit (.bool b)]] (vecC (x*cosK t-y*sinK t) (x*sinK t+y*cosK t) z):=
 pcallT (.r 4 ((RValidM_spec (t) (b)).eqB h1) (.b 9 h2 (.r 13 (RTurn_K (x) (y) (z) (t) s13_0 s13_1 s13_2) (.c (lq 30 30) .nil)))) (by kernel_rfl)
end Go.Fw
open Go
namespace Go.Fw
set_option maxRecDepth 100000
theorem WMov_bad(x y z:RN)(t:Int)(b:Bool)(g:ok3 x y z=false)(h:raw3 1000000 x y z=true):PCall P 53 [vecR x y z,.agg [ci64 t,.lit (.bool b)]] zeroVec:=by
 cases ht:validM t
 · exact wMvB_p3 x y z t b g ht
 · cases b
   · exact wMvB_p2 x y z t false g ht rfl h
   · exact wMvB_p1 x y z t true g ht rfl h
theorem RMov_bad(x y z:RN)(t:Int)(b:Bool)(g:ok3 x y z=false)(h:raw3 1000000 x y z=true):PCall P 54 [vecR x y z,.agg [ci64 t,.lit (.bool b)]] zeroVec:=by
 cases ht:validM t
 · exact rMvB_p3 x y z t b g ht
 · cases b
   · exact rMvB_p2 x y z t false g ht rfl h
   · exact rMvB_p1 x y z t true g ht rfl h
theorem RMove_K (x y z : K) (t : Int) (b : Bool) (ht : validM t = true) (hx : x.sz ≤ 100000) (hy : y.sz ≤ 100000) (hz : z.sz ≤ 100000) :
    PCall P 54 [vecC x y z,.agg [ci64 t,.lit (.bool b)]] (vecC (mvX x y t b) (mvY x y t b) z):=by
 cases b with
 |true=>exact rMvK_p1 x y z t true ht rfl (by omega) (by omega) (by omega) hx (by rw[K.sz_neg];exact hy) hz
 |false=>exact rMvK_p2 x y z t false ht rfl hx hy hz
end Go.Fw
open Go
namespace Go.Fw
set_option maxRecDepth 100000
theorem int_cells{a b:Int}(h1:CV.lit (.bool (decide (a<0)))=CV.lit (.bool (decide (b<0))))(h2:cstr (bytesOf a.natAbs)=cstr (bytesOf b.natAbs)):a=b:=by
 have e2:=bytesOf_inj (cstr_inj h2)
 injection h1 with h1
 injection h1 with h1
 rw[decide_eq_decide]at h1
 omega
theorem numL_inj{x y:K}(h:numL x=numL y):x=y:=by
 unfold numL at h
 simp only[List.cons.injEq,and_true]at h
 obtain⟨a0,b0,a1,b1,a2,b2,a3,b3,a4,b4⟩:=h
 have e0:=int_cells a0 b0
 have e1:=int_cells a1 b1
 have e2:=int_cells a2 b2
 have e3:=int_cells a3 b3
 have e4:=int_cells a4 b4
 cases x
 cases y
 simp only at e0 e1 e2 e3 e4
 subst e0 e1 e2 e3 e4
 rfl
noncomputable def toO(x:RN):Option K:=if h:x.ok=true then some (RN.ok_k h).choose else none
def ofO:Option K→RN
 |none=> .zero
 |some k=> .ofK k
theorem toO_k{x:RN}(h:x.ok=true): ∃k,toO x=some k∧x.l=numL k:=⟨(RN.ok_k h).choose,dif_pos h,(RN.ok_k h).choose_spec⟩
theorem toO_bad{x:RN}(h:x.ok=false):toO x=none:=dif_neg (by rw[h];decide)
theorem toO_ofK(k:K):toO (.ofK k)=some k:=by
 obtain⟨k',h1,h2⟩:=toO_k (RN.ofK_ok k)
 rw[RN.ofK_l]at h2
 rw[h1,numL_inj h2]
theorem toO_zero:toO .zero=none:=toO_bad (by decide)
theorem toO_ofO(o:Option K):toO (ofO o)=o:=by
 cases o with
 |none=>exact toO_zero
 |some k=>exact toO_ofK k
theorem toO_l{x:RN}{k:K}(h:toO x=some k):x.ok=true∧x.l=numL k:=by
 cases e:x.ok
 · rw[toO_bad e]at h;cases h
 · obtain⟨k',h1,h2⟩:=toO_k e
   rw[h1]at h
   injection h with h
   subst h
   exact⟨rfl,h2⟩
theorem toO_none{x:RN}(h:toO x=none):x.ok=false:=by
 cases e:x.ok
 · rfl
 · obtain⟨k',h1,_⟩:=toO_k e
   rw[h1]at h;cases h
theorem c_of{x:RN}{k:K}(h:x.l=numL k):x.c=numC k:=by
 show CV.agg x.l=_
 rw[h];rfl
def osz:Option K→Nat
 |none=>0
 |some k=>k.sz
theorem ofO_raw{o:Option K}{n:Nat}(h:osz o≤n):(ofO o).raw n=true:=by
 cases o with
 |none=>
  show RN.raw n .zero=true
  have h0:decide ((⟨#[]⟩:ByteArray).size≤n)=true:=decide_eq_true (Nat.zero_le _)
  show(decide ((⟨#[]⟩:ByteArray).size≤n)&&decide ((⟨#[]⟩:ByteArray).size≤n)&&decide ((⟨#[]⟩:ByteArray).size≤n)&&decide ((⟨#[]⟩:ByteArray).size≤n)&&decide ((⟨#[]⟩:ByteArray).size≤n))=true
  generalize decide ((⟨#[]⟩:ByteArray).size≤n)=q at h0
  subst h0;rfl
 |some k=>exact RN.ofK_raw k h
theorem osz_toO{x:RN}{n:Nat}(h:x.raw n=true):osz (toO x)≤n:=by
 cases e:toO x with
 |none=>exact Nat.zero_le _
 |some k=>exact l_sz (toO_l e).2 h
def oMul:Option K→Option K→Option K
 |some x,some y=>some (x*y)
 |_,_=>none
def oAdd:Option K→Option K→Option K
 |some x,some y=>some (x+y)
 |_,_=>none
def oSub:Option K→Option K→Option K
 |some x,some y=>some (x-y)
 |_,_=>none
def oNeg:Option K→Option K
 |some x=>some (-x)
 |none=>none
theorem osz_mul(x y:Option K):osz (oMul x y)≤osz x+osz y+1:=by
 cases x<;>cases y<;>first|exact Nat.zero_le _|exact K.sz_mul _ _
theorem osz_add(x y:Option K):osz (oAdd x y)≤osz x+osz y+1:=by
 cases x<;>cases y<;>first|exact Nat.zero_le _|exact K.sz_add _ _
theorem osz_sub(x y:Option K):osz (oSub x y)≤osz x+osz y+1:=by
 cases x<;>cases y<;>first|exact Nat.zero_le _|exact K.sz_sub _ _
theorem osz_neg(x:Option K):osz (oNeg x)=osz x:=by
 cases x
 · rfl
 · exact K.sz_neg _
end Go.Fw
open Go
namespace Go.Fw
set_option maxRecDepth 100000
theorem raw_of{x:RN}{k:K}{n:Nat}(h:toO x=some k)(hx:x.raw n=true):k.sz≤n:=l_sz (toO_l h).2 hx
noncomputable def nAdd(x y:RN):RN:=ofO (oAdd (toO x) (toO y))
noncomputable def nSub(x y:RN):RN:=ofO (oSub (toO x) (toO y))
noncomputable def nMul(x y:RN):RN:=ofO (oMul (toO x) (toO y))
noncomputable def nNeg(x:RN):RN:=ofO (oNeg (toO x))
theorem toO_nNeg(x:RN):toO (nNeg x)=oNeg (toO x):=toO_ofO _
theorem sub_o(x y:Option K):oAdd x (oNeg y)=oSub x y:=by
 cases x<;>cases y<;>rfl
def oX(x y z:Option K)(t:Int)(b:Bool):Option K:=match x,y,z with
 |some x,some y,some _=>some (mvX x y t b)
 |_,_,_=>none
def oY(x y z:Option K)(t:Int)(b:Bool):Option K:=match x,y,z with
 |some x,some y,some _=>some (mvY x y t b)
 |_,_,_=>none
def oZ(x y z:Option K):Option K:=match x,y,z with
 |some _,some _,some z=>some z
 |_,_,_=>none
noncomputable def nX(x y z:RN)(t:Int)(b:Bool):RN:=ofO (oX (toO x) (toO y) (toO z) t b)
noncomputable def nY(x y z:RN)(t:Int)(b:Bool):RN:=ofO (oY (toO x) (toO y) (toO z) t b)
noncomputable def nZ(x y z:RN):RN:=ofO (oZ (toO x) (toO y) (toO z))
theorem vec_ok{x y z:RN}{k l m:K}(hx:toO x=some k)(hy:toO y=some l)(hz:toO z=some m):vecR x y z=vecC k l m:=by
 unfold vecR vecC
 rw[(toO_l hx).2,(toO_l hy).2,(toO_l hz).2]
theorem ok3_none{x y z:RN}(h:toO x=none∨toO y=none∨toO z=none):ok3 x y z=false:=by
 unfold ok3
 rcases h with h|h|h<;>rw[toO_none h]<;>simp
theorem WMov_r (x y z : RN) (t : Int) (b : Bool) (ht : validM t = true) (h : raw3 100000 x y z = true) :
    PCall P 53 [vecR x y z,.agg [ci64 t,.lit (.bool b)]] (vecR (nX x y z t b) (nY x y z t b) (nZ x y z)):=by
 unfold nX nY nZ
 obtain⟨hx,hy,hz⟩:=raw3_iff.1 h
 have h6:raw3 1000000 x y z=true:=raw3_iff.2 ⟨RN.raw_mono hx (by decide),RN.raw_mono hy (by decide),RN.raw_mono hz (by decide)⟩
 cases ex:toO x with
 |none=>exact WMov_bad x y z t b (ok3_none (.inl ex)) h6
 |some k=>
  cases ey:toO y with
  |none=>exact WMov_bad x y z t b (ok3_none (.inr (.inl ey))) h6
  |some l=>
   cases ez:toO z with
   |none=>exact WMov_bad x y z t b (ok3_none (.inr (.inr ez))) h6
   |some m=>
    rw[vec_ok ex ey ez]
    have a:=raw_of ex hx
    have b':=raw_of ey hy
    have c:=raw_of ez hz
    exact WMove_K k l m t b ht (by omega) (by omega) (by omega)
theorem RMov_r (x y z : RN) (t : Int) (b : Bool) (ht : validM t = true) (h : raw3 100000 x y z = true) :
    PCall P 54 [vecR x y z,.agg [ci64 t,.lit (.bool b)]] (vecR (nX x y z t b) (nY x y z t b) (nZ x y z)):=by
 unfold nX nY nZ
 obtain⟨hx,hy,hz⟩:=raw3_iff.1 h
 have h6:raw3 1000000 x y z=true:=raw3_iff.2 ⟨RN.raw_mono hx (by decide),RN.raw_mono hy (by decide),RN.raw_mono hz (by decide)⟩
 cases ex:toO x with
 |none=>exact RMov_bad x y z t b (ok3_none (.inl ex)) h6
 |some k=>
  cases ey:toO y with
  |none=>exact RMov_bad x y z t b (ok3_none (.inr (.inl ey))) h6
  |some l=>
   cases ez:toO z with
   |none=>exact RMov_bad x y z t b (ok3_none (.inr (.inr ez))) h6
   |some m=>
    rw[vec_ok ex ey ez]
    exact RMove_K k l m t b ht (raw_of ex hx) (raw_of ey hy) (raw_of ez hz)
abbrev rnB(x y:RN):Bool:=x.b0==y.b0&&(x.s0==y.s0&&true)&&(x.b1==y.b1&&(x.s1==y.s1&&true)&&(x.b2==y.b2&&(x.s2==y.s2&&true)&&(x.b3==y.b3&&(x.s3==y.s3&&true)&&true)))&&(x.b4==y.b4&&(x.s4==y.s4&&true)&&true)
theorem rnB_iff{x y:RN}:rnB x y=true↔x=y:=by
 cases x
 cases y
 simp only[rnB,ba_beq,Bool.and_eq_true,beq_iff_eq,and_true,RN.mk.injEq,decide_eq_true_eq]
 constructor
 · rintro⟨⟨h0,h1,h2,h3⟩,h4⟩
   exact⟨h0.1,h0.2,h1.1,h1.2,h2.1,h2.2,h3.1,h3.2,h4.1,h4.2⟩
 · rintro⟨a,b,c,d,e,f,g,h,i,j⟩
   exact⟨⟨⟨a,b⟩,⟨c,d⟩,⟨e,f⟩,⟨g,h⟩⟩,i,j⟩
end Go.Fw
