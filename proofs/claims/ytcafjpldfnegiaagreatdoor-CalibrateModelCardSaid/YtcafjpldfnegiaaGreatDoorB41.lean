/- A part of the proof that the law returns true for every input: an executor for the model's code, and what functions of the program compute. -/
import Derived.Test.YtcafjpldfnegiaaGreatDoorB11
import Derived.Test.YtcafjpldfnegiaaGreatDoorB15
import Derived.Test.YtcafjpldfnegiaaGreatDoorB22
import Derived.Test.YtcafjpldfnegiaaGreatDoorB40
import Derived.KernelRfl
open Go IntKind
namespace Go.Fw
set_option maxRecDepth 100000
theorem z1v(z:Int):(z.sign==(0:Int))=decide (z=0):=by
 rw[Bool.eq_iff_iff,beq_iff_eq,decide_eq_true_eq]
 exact Int.sign_eq_zero_iff_zero
section
variable{X Y:Nat→Int}{p q:Nat}(hp:p+q+2<1073741824)(hX: ∀i,(X i).natAbs<256^p)(hY: ∀i,(Y i).natAbs<256^q)
include hp hX hY
theorem z5t {R : Goal} (hn : j7 R.n [0, 1, 2, 3] = true) (i j t : Nat) (hi : i < 4) (hj : j < 4) (ht : t ≤ 20) (C : Nat → Int) (hC : ∀ k, (C k).natAbs ≤ t * 6 * 256 ^ (p + q))
    (hR:Ok P 130 (loopHead P 130 1) (zfw X Y (z24 X Y i j C) i (j+1)) R):Ok P 130 (loopHead P 130 1) (zfw X Y C i j) R:=by
 have hii:(0:Int)≤(i:Int)∧(i:Int)<4:=by omega
 have hjj:(0:Int)≤(j:Int)∧(j:Int)<4:=by omega
 by_cases ha:X i=0
 · rw[z3e C (by rw[ha,Int.zero_mul])]at hR
   exact okS (ztj X Y C i j hi hj) rfl (.cons hii (.cons (U3 _) (.cons (by rw[z1v];exact decide_eq_true ha) (.cons (z0b _) (.cons (z0b _) (.cons (z0b _) (.cons (z0b _) .nil))))))) hn hR
 · by_cases hb:Y j=0
   · rw[z3e C (by rw[hb,Int.mul_zero])]at hR
     exact okS (zt1 X Y C i j hi hj) rfl (.cons hii (.cons (U3 _) (.cons (by rw[z1v];exact decide_eq_false ha) (.cons hjj (.cons (U3 _) (.cons (by rw[z1v];exact decide_eq_true hb) (.cons (z0b _) (.cons (z0b _) (.cons (z0b _) (.cons (z0b _) .nil)))))))))) hn hR
   · have hm:=z3r hX hY i j
     obtain⟨s1,s2⟩:=zeP i hi j hj
     have hw:256^(p+q+1)=256*256^(p+q):=by rw[Nat.pow_succ,Nat.mul_comm]
     have hf:(sq4 i j*(X i*Y j)).natAbs<6*256^(p+q)+1:=by
      rw[Int.natAbs_mul]
      have:(sq4 i j).natAbs≤6:=by omega
      have:=Nat.mul_le_mul this (Nat.le_of_lt hm)
      omega
     have smX:SmlZ (X i):=Sml.of_lt (hX i) (by omega)
     have smY:SmlZ (Y j):=Sml.of_lt (hY j) (by omega)
     have smM:Sml ((X i).natAbs*(Y j).natAbs):=by rw[←Int.natAbs_mul];exact Sml.of_lt hm (by omega)
     have smS:SmlZ (sq4 i j):=z0q (by omega)
     have smM':SmlZ (X i*Y j):=Sml.of_lt hm (by omega)
     have hCk:=hC (i^^^j)
     have ht6:t*6*256^(p+q)≤120*256^(p+q):=Nat.mul_le_mul_right _ (by omega)
     have hpp:0<256^(p+q):=Nat.pow_pos (by decide)
     have smF:SmlZ (sq4 i j*(X i*Y j)):=Sml.of_lt (k:=p+q+1) (by omega) (by omega)
     have smF2:Sml ((sq4 i j).natAbs*(X i*Y j).natAbs):=by rw[←Int.natAbs_mul];exact smF
     have smC:SmlZ (C (i^^^j)):=Sml.of_lt (k:=p+q+1) (by omega) (by omega)
     have smA:Sml ((C (i^^^j)).natAbs+(sq4 i j*(X i*Y j)).natAbs):=Sml.of_lt (k:=p+q+1) (by omega) (by omega)
     have hx4:i^^^j<4:=Nat.xor_lt_two_pow (n:=2) (by simpa using hi) (by simpa using hj)
     exact okS (zsK X Y C i j hi hj) rfl (.cons hii (.cons (U3 _) (.cons (by rw[z1v];exact decide_eq_false ha) (.cons hjj (.cons (U3 _) (.cons (by rw[z1v];exact decide_eq_false hb) (.cons (Z5 _ (by omega)) (.cons hii (.cons hjj
      (.cons (Y5 _ _ smX smY smM) (.cons (Y5 _ _ smS smM' smF2) (.cons (Nat.le_refl _) (.cons (by omega) (.cons (z0v _ _ smC smF smA) (.cons (by omega) (.cons (by omega) (.cons (z0b _) (.cons (z0b _) (.cons (z0b _) (.cons (z0b _) .nil)))))))))))))))))))) hn hR
theorem z4e {R : Goal} (hn : j7 R.n [0, 1, 2, 3] = true) (i t : Nat) (hi : i < 4) (ht : t ≤ 16) (C : Nat → Int) (hC : ∀ k, (C k).natAbs ≤ t * 6 * 256 ^ (p + q))
    (hR:Ok P 130 (loopHead P 130 0) (zna X Y (z24 X Y i 3 (z24 X Y i 2 (z24 X Y i 1 (z24 X Y i 0 C)))) (i+1)) R):Ok P 130 (loopHead P 130 0) (zna X Y C i) R:=by
 have b0:=z10 hX hY i 0 t hi (by decide) C hC
 have b1:=z10 hX hY i 1 (t+1) hi (by decide) _ b0
 have b2:=z10 hX hY i 2 (t+2) hi (by decide) _ b1
 have cv: ∀C:Nat→Int,Ps [CvL (cl4 X),CvL (cl4 Y),CvL (cl4 (fun _=>0)),CvL (cl4 C)]:=fun C=> .cons (z0b _) (.cons (z0b _) (.cons (z0b _) (.cons (z0b _) .nil)))
 refine okS (zsS X Y C i hi) rfl (cv _) hn ?_
 refine z5t hp hX hY hn i 0 t hi (by decide) (by omega) C hC ?_
 refine z5t hp hX hY hn i 1 (t+1) hi (by decide) (by omega) _ b0 ?_
 refine z5t hp hX hY hn i 2 (t+2) hi (by decide) (by omega) _ b1 ?_
 refine z5t hp hX hY hn i 3 (t+3) hi (by decide) (by omega) _ b2 ?_
 exact okS (zsQ X Y _ i hi) rfl (cv _) hn hR
theorem zgB : PCall P 130 [c4C (X 0) (X 1) (X 2) (X 3), c4C (Y 0) (Y 1) (Y 2) (Y 3)]
    (c4C (X 0*Y 0+2*X 1*Y 1+3*X 2*Y 2+6*X 3*Y 3) (X 0*Y 1+X 1*Y 0+3*X 2*Y 3+3*X 3*Y 2) (X 0*Y 2+X 2*Y 0+2*X 1*Y 3+2*X 3*Y 1) (X 0*Y 3+X 3*Y 0+X 1*Y 2+X 2*Y 1)):=by
 have c0: ∀k:Nat,((fun _=>0:Nat→Int) k).natAbs≤0*6*256^(p+q):=by intro k;simp
 have c1:=z2v hX hY 0 0 (by decide) _ c0
 have c2:=z2v hX hY 1 4 (by decide) _ c1
 have c3:=z2v hX hY 2 8 (by decide) _ c2
 refine Y6 (z91 (ztd X Y) rfl (.cons (z0b _) (.cons (z0b _) (.cons (z0b _) (.cons (z0b _) .nil)))) ?_)
 refine z4e hp hX hY rfl 0 0 (by decide) (by decide) _ c0 ?_
 refine z4e hp hX hY rfl 1 4 (by decide) (by decide) _ c1 ?_
 refine z4e hp hX hY rfl 2 8 (by decide) (by decide) _ c2 ?_
 refine z4e hp hX hY rfl 3 12 (by decide) (by decide) _ c3 ?_
 generalize hC:z24 X Y 3 3 _=C at*
 have e0:C 0=X 0*Y 0+2*X 1*Y 1+3*X 2*Y 2+6*X 3*Y 3:=by
  have:C 0=0+1*(X 0*Y 0)+2*(X 1*Y 1)+3*(X 2*Y 2)+6*(X 3*Y 3):=by rw[←hC];rfl
  rw[this];grind
 have e1:C 1=X 0*Y 1+X 1*Y 0+3*X 2*Y 3+3*X 3*Y 2:=by
  have:C 1=0+1*(X 0*Y 1)+1*(X 1*Y 0)+3*(X 2*Y 3)+3*(X 3*Y 2):=by rw[←hC];rfl
  rw[this];grind
 have e2:C 2=X 0*Y 2+X 2*Y 0+2*X 1*Y 3+2*X 3*Y 1:=by
  have:C 2=0+1*(X 0*Y 2)+2*(X 1*Y 3)+1*(X 2*Y 0)+2*(X 3*Y 1):=by rw[←hC];rfl
  rw[this];grind
 have e3:C 3=X 0*Y 3+X 3*Y 0+X 1*Y 2+X 2*Y 1:=by
  have:C 3=0+1*(X 0*Y 3)+1*(X 1*Y 2)+1*(X 2*Y 1)+1*(X 3*Y 0):=by rw[←hC];rfl
  rw[this];grind
 refine okR (zsU X Y C) (.cons (Nat.le_refl _) .nil) ?_
 rw[←e0,←e1,←e2,←e3]
 rfl
end
def f4(a b c d:Int):Nat→Int
 |0=>a
 |1=>b
 |2=>c
 |_=>d
def By4(n:Nat)(a b c d:Int):Prop:=By n a∧By n b∧By n c∧By n d
theorem By4.f{n:Nat}{a b c d:Int}(h:By4 n a b c d)(i:Nat):(f4 a b c d i).natAbs<256^n:=by
 obtain⟨h0,h1,h2,h3⟩:=h
 match i with
 |0=>exact h0
 |1=>exact h1
 |2=>exact h2
 |n+3=>exact h3
theorem zbg (a0 a1 a2 a3 b0 b1 b2 b3 : Int) (hp : ∃ n, n ≤ 500000000 ∧ By4 n a0 a1 a2 a3 ∧ By4 n b0 b1 b2 b3) : PCall P 130 [c4C a0 a1 a2 a3, c4C b0 b1 b2 b3]
    (c4C (a0*b0+2*a1*b1+3*a2*b2+6*a3*b3) (a0*b1+a1*b0+3*a2*b3+3*a3*b2) (a0*b2+a2*b0+2*a1*b3+2*a3*b1) (a0*b3+a3*b0+a1*b2+a2*b1)):=by
 obtain⟨n,hn,ha,hb⟩:=hp
 exact zgB (X:=f4 a0 a1 a2 a3) (Y:=f4 b0 b1 b2 b3) (p:=n) (q:=n) (by omega) ha.f hb.f
theorem zs2(x y:K)(g1:z8k x=false)(a:x.sz≤1000000)(e:y.sz≤1000000)(f: ∃n,n≤500000000∧By4 n x.c0 x.c1 x.c2 x.c3∧By4 n y.c0 y.c1 y.c2 y.c3)(g:Sml x.d.natAbs)(i:Sml y.d.natAbs)(j:Sml (x.d.natAbs*y.d.natAbs))(k:x.d*y.d≠0)(l:SmlZ (x.c0*y.c0+2*x.c1*y.c1+3*x.c2*y.c2+6*x.c3*y.c3))(m:SmlZ (x.c0*y.c1+x.c1*y.c0+3*x.c2*y.c3+3*x.c3*y.c2))(o:SmlZ (x.c0*y.c2+x.c2*y.c0+2*x.c1*y.c3+2*x.c3*y.c1))(p:SmlZ (x.c0*y.c3+x.c3*y.c0+x.c1*y.c2+x.c2*y.c1))(q:SmlZ (x.d*y.d)):PCall P 38 [Z0 x,Z0 y] (Z0 (K.of (x.c0*y.c0+2*x.c1*y.c1+3*x.c2*y.c2+6*x.c3*y.c3) (x.c0*y.c1+x.c1*y.c0+3*x.c2*y.c3+3*x.c3*y.c2) (x.c0*y.c2+x.c2*y.c0+2*x.c1*y.c3+2*x.c3*y.c1) (x.c0*y.c3+x.c3*y.c0+x.c1*y.c2+x.c2*y.c1) (x.d*y.d))):=
 j3 (.r 4 (z16 x a) (.r 8 (z16 y e) (.r 13 (z4T x) (.c (lq 5 5) (.b 21 g1 (.r 26 (zbg x.c0 x.c1 x.c2 x.c3 y.c0 y.c1 y.c2 y.c3 f) (.r 31 (Y5 x.d y.d g i j) (.r 32 (zb9 (x.c0*y.c0+2*x.c1*y.c1+3*x.c2*y.c2+6*x.c3*y.c3) (x.c0*y.c1+x.c1*y.c0+3*x.c2*y.c3+3*x.c3*y.c2) (x.c0*y.c2+x.c2*y.c0+2*x.c1*y.c3+2*x.c3*y.c1) (x.c0*y.c3+x.c3*y.c0+x.c1*y.c2+x.c2*y.c1) (x.d*y.d) k l m o p q) (.c (lq 10 10) .nil))))))))) (by kernel_rfl)
theorem zqZ(x y:K)(g1:z8k x=true)(g2:z8k y=false)(a:x.sz≤1000000)(e:y.sz≤1000000)(f: ∃n,n≤500000000∧By4 n x.c0 x.c1 x.c2 x.c3∧By4 n y.c0 y.c1 y.c2 y.c3)(g:Sml x.d.natAbs)(i:Sml y.d.natAbs)(j:Sml (x.d.natAbs*y.d.natAbs))(k:x.d*y.d≠0)(l:SmlZ (x.c0*y.c0+2*x.c1*y.c1+3*x.c2*y.c2+6*x.c3*y.c3))(m:SmlZ (x.c0*y.c1+x.c1*y.c0+3*x.c2*y.c3+3*x.c3*y.c2))(o:SmlZ (x.c0*y.c2+x.c2*y.c0+2*x.c1*y.c3+2*x.c3*y.c1))(p:SmlZ (x.c0*y.c3+x.c3*y.c0+x.c1*y.c2+x.c2*y.c1))(q:SmlZ (x.d*y.d)):PCall P 38 [Z0 x,Z0 y] (Z0 (K.of (x.c0*y.c0+2*x.c1*y.c1+3*x.c2*y.c2+6*x.c3*y.c3) (x.c0*y.c1+x.c1*y.c0+3*x.c2*y.c3+3*x.c3*y.c2) (x.c0*y.c2+x.c2*y.c0+2*x.c1*y.c3+2*x.c3*y.c1) (x.c0*y.c3+x.c3*y.c0+x.c1*y.c2+x.c2*y.c1) (x.d*y.d))):=
 j3 (.r 4 (z16 x a) (.r 8 (z16 y e) (.r 13 (z4T x) (.c (lq 5 5) (.b 21 g1 (.r 23 (z4T y) (.c (lq 5 5) (.b 31 g2 (.r 36 (zbg x.c0 x.c1 x.c2 x.c3 y.c0 y.c1 y.c2 y.c3 f) (.r 41 (Y5 x.d y.d g i j) (.r 42 (zb9 (x.c0*y.c0+2*x.c1*y.c1+3*x.c2*y.c2+6*x.c3*y.c3) (x.c0*y.c1+x.c1*y.c0+3*x.c2*y.c3+3*x.c3*y.c2) (x.c0*y.c2+x.c2*y.c0+2*x.c1*y.c3+2*x.c3*y.c1) (x.c0*y.c3+x.c3*y.c0+x.c1*y.c2+x.c2*y.c1) (x.d*y.d) k l m o p q) (.c (lq 10 10) .nil)))))))))))) (by kernel_rfl)
theorem zhf {n : Nat} (hn : n + n + 1 < 1073741824) {a0 a1 a2 a3 b0 b1 b2 b3 : Int} (ha : By4 n a0 a1 a2 a3) (hb : By4 n b0 b1 b2 b3) :
    SmlZ (a0*b0+2*a1*b1+3*a2*b2+6*a3*b3)∧SmlZ (a0*b1+a1*b0+3*a2*b3+3*a3*b2)∧SmlZ (a0*b2+a2*b0+2*a1*b3+2*a3*b1)∧SmlZ (a0*b3+a3*b0+a1*b2+a2*b1):=by
 obtain⟨x0,x1,x2,x3⟩:=ha
 obtain⟨y0,y1,y2,y3⟩:=hb
 have c:=fun(k a b:Int)=>Int.mul_assoc k a b
 have key: ∀{a b:Int},By n a→By n b→(a*b).natAbs<256^(n+n):=fun ha hb=>ha.mul hb
 obtain⟨M,hM⟩: ∃M,M=256^(n+n):=⟨_,rfl⟩
 have fin: ∀z:Int,z.natAbs<256*M→SmlZ z:=fun z hz=>Sml.of_lt (k:=n+n+1) (by rw[Nat.pow_succ,←hM,Nat.mul_comm];exact hz) hn
 refine⟨fin _ ?_,fin _ ?_,fin _ ?_,fin _ ?_⟩
 · have h1:=key x0 y0;have h2:=key x1 y1;have h3:=key x2 y2;have h4:=key x3 y3
   rw[←hM]at h1 h2 h3 h4
   rw[c,c,c];omega
 · have h1:=key x0 y1;have h2:=key x1 y0;have h3:=key x2 y3;have h4:=key x3 y2
   rw[←hM]at h1 h2 h3 h4
   rw[c,c];omega
 · have h1:=key x0 y2;have h2:=key x2 y0;have h3:=key x1 y3;have h4:=key x3 y1
   rw[←hM]at h1 h2 h3 h4
   rw[c,c];omega
 · have h1:=key x0 y3;have h2:=key x3 y0;have h3:=key x1 y2;have h4:=key x2 y1
   rw[←hM]at h1 h2 h3 h4
   omega
theorem zba(x y:K)(hx:x.sz≤1000000)(hy:y.sz≤1000000):PCall P 38 [Z0 x,Z0 y] (Z0 (x*y)):=by
 have hxs:=hx
 have hys:=hy
 obtain⟨x0,x1,x2,x3,xd⟩:=By.of_sz hx
 obtain⟨y0,y1,y2,y3,yd⟩:=By.of_sz hy
 have L:(1000000:Nat)<1073741824:=by decide
 have L2:(1000000:Nat)+1000000<1073741824:=by decide
 have hb:By4 1000000 x.c0 x.c1 x.c2 x.c3:=⟨x0,x1,x2,x3⟩
 have hb':By4 1000000 y.c0 y.c1 y.c2 y.c3:=⟨y0,y1,y2,y3⟩
 obtain⟨s0,s1,s2,s3⟩:=zhf (by decide) hb hb'
 have hex: ∃n,n≤500000000∧By4 n x.c0 x.c1 x.c2 x.c3∧By4 n y.c0 y.c1 y.c2 y.c3:=⟨1000000,by decide,hb,hb'⟩
 have dn:x.d*y.d≠0:=Int.mul_ne_zero x.d_ne y.d_ne
 cases h1:z8k x
 · exact zs2 x y h1 hxs hys hex (xd.sml L) (yd.sml L) (xd.sm2 yd L2) dn s0 s1 s2 s3 ((xd.mul yd).sml L2)
 · cases h2:z8k y
   · exact zqZ x y h1 h2 hxs hys hex (xd.sml L) (yd.sml L) (xd.sm2 yd L2) dn s0 s1 s2 s3 ((xd.mul yd).sml L2)
   · exact znm x y (z3V h1) (z3V h2)
theorem ziY(x y:K)(a:Smk y)(d:x.sz+(-y).sz+2<1073741824):PCall P 135 [Z0 x,Z0 y] (Z0 (x+ -y)):=
 j3 (.r 5 (zaE y a) (.r 6 (z6C x (-y) d) (.c (lq 10 10) .nil))) (by kernel_rfl)
theorem zpu(x y:K)(h:x.sz+y.sz+2<1073741824):PCall P 135 [Z0 x,Z0 y] (Z0 (x-y)):=ziY x y (by simp only[Smk];omega) (by rw[K.sz_neg];exact h)
theorem zbq{x:K}(h:zn9 x=true):x.sz≤1:=by
 simp only[zn9,Bool.and_eq_true,decide_eq_true_eq]at h
 rw[K.sz_le]
 exact⟨h.1.1.1.1,h.1.1.1.2,h.1.1.2,h.1.2,h.2⟩
theorem zio(i:Int):(z5o i).sz≤1:=by
 obtain⟨a,ha⟩:=ztJ i
 rw[zrE ha];exact zbq (znd a).1
theorem zix(i:Int):(z9n i).sz≤1:=by
 obtain⟨a,ha⟩:=ztJ i
 rw[znr ha];exact zbq (znd a).2
def U6:List CV:=[.lit (.bool false),X1 ⟨#[]⟩,.lit (.bool false),X1 ⟨#[]⟩,.lit (.bool false),X1 ⟨#[]⟩,.lit (.bool false),X1 ⟨#[]⟩,.lit (.bool false),X1 ⟨#[]⟩]
def z4C:CV:= .agg (U6++(U6++U6))
def zp2(n:Nat)(x y z:RN):Bool:=x.raw n&&(y.raw n&&z.raw n)
def ok3(x y z:RN):Bool:=x.ok&&(y.ok&&z.ok)
theorem z0z{n:Nat}{x y z:RN}:zp2 n x y z=true↔x.raw n=true∧y.raw n=true∧z.raw n=true:=by simp[zp2]
theorem RN.raw_mono{x:RN}{n m:Nat}(h:x.raw n=true)(hm:n≤m):x.raw m=true:=by
 unfold RN.raw at h ⊢
 simp only[Bool.and_eq_true,decide_eq_true_eq]at h ⊢
 omega
theorem z38{a b:ByteArray}(h:X1 a=X1 b):a=b:=by injection h with h;injection h
theorem ztR{x:RN}{k:K}{n:Nat}(h:x.l=zbb k)(hr:x.raw n=true):k.sz≤n:=by
 unfold RN.l zbb at h
 simp only[List.cons.injEq,and_true]at h
 obtain⟨_,e0,_,e1,_,e2,_,e3,_,e4⟩:=h
 have f0:=z38 e0
 have f1:=z38 e1
 have f2:=z38 e2
 have f3:=z38 e3
 have f4:=z38 e4
 unfold RN.raw at hr
 simp only[Bool.and_eq_true,decide_eq_true_eq]at hr
 rw[f0,f1,f2,f3,f4]at hr
 exact K.sz_le.2 ⟨V7.1 hr.1.1.1.1,V7.1 hr.1.1.1.2,V7.1 hr.1.1.2,V7.1 hr.1.2,V7.1 hr.2⟩
def RN.zero:RN:=⟨false,⟨#[]⟩,false,⟨#[]⟩,false,⟨#[]⟩,false,⟨#[]⟩,false,⟨#[]⟩⟩
theorem z2N{a b:Int}(h1:CV.lit (.bool (decide (a<0)))=CV.lit (.bool (decide (b<0))))(h2:X1 (bytesOf a.natAbs)=X1 (bytesOf b.natAbs)):a=b:=by
 have e2:=z6i (z38 h2)
 injection h1 with h1
 injection h1 with h1
 rw[decide_eq_decide]at h1
 omega
theorem zh8{x y:K}(h:zbb x=zbb y):x=y:=by
 unfold zbb at h
 simp only[List.cons.injEq,and_true]at h
 obtain⟨a0,b0,a1,b1,a2,b2,a3,b3,a4,b4⟩:=h
 have e0:=z2N a0 b0
 have e1:=z2N a1 b1
 have e2:=z2N a2 b2
 have e3:=z2N a3 b3
 have e4:=z2N a4 b4
 cases x
 cases y
 simp only at e0 e1 e2 e3 e4
 subst e0 e1 e2 e3 e4
 rfl
noncomputable def toO(x:RN):Option K:=if h:x.ok=true then some (RN.ok_k h).choose else none
def ofO:Option K→RN
 |none=> .zero
 |some k=> .ofK k
theorem zh7{x:RN}(h:x.ok=true): ∃k,toO x=some k∧x.l=zbb k:=⟨(RN.ok_k h).choose,dif_pos h,(RN.ok_k h).choose_spec⟩
theorem zfj{x:RN}(h:x.ok=false):toO x=none:=dif_neg (by rw[h];decide)
theorem z7K(k:K):toO (.ofK k)=some k:=by
 obtain⟨k',h1,h2⟩:=zh7 (RN.ofK_ok k)
 rw[RN.ofK_l]at h2
 rw[h1,zh8 h2]
theorem z5j:toO .zero=none:=zfj (by decide)
theorem z7x(o:Option K):toO (ofO o)=o:=by
 cases o with
 |none=>exact z5j
 |some k=>exact z7K k
theorem z18{x:RN}{k:K}(h:toO x=some k):x.ok=true∧x.l=zbb k:=by
 cases e:x.ok
 · rw[zfj e]at h;cases h
 · obtain⟨k',h1,h2⟩:=zh7 e
   rw[h1]at h
   injection h with h
   subst h
   exact⟨rfl,h2⟩
theorem z0i{x:RN}(h:toO x=none):x.ok=false:=by
 cases e:x.ok
 · rfl
 · obtain⟨k',h1,_⟩:=zh7 e
   rw[h1]at h;cases h
theorem zc7{x:RN}{k:K}(h:x.l=zbb k):x.c=Z0 k:=by
 show CV.agg x.l=_
 rw[h];rfl
def osz:Option K→Nat
 |none=>0
 |some k=>k.sz
theorem z19{o:Option K}{n:Nat}(h:osz o≤n):(ofO o).raw n=true:=by
 cases o with
 |none=>
  show RN.raw n .zero=true
  have h0:decide ((⟨#[]⟩:ByteArray).size≤n)=true:=decide_eq_true (Nat.zero_le _)
  show(decide ((⟨#[]⟩:ByteArray).size≤n)&&decide ((⟨#[]⟩:ByteArray).size≤n)&&decide ((⟨#[]⟩:ByteArray).size≤n)&&decide ((⟨#[]⟩:ByteArray).size≤n)&&decide ((⟨#[]⟩:ByteArray).size≤n))=true
  generalize decide ((⟨#[]⟩:ByteArray).size≤n)=q at h0
  subst h0;rfl
 |some k=>exact RN.ofK_raw k h
theorem z0U{x:RN}{n:Nat}(h:x.raw n=true):osz (toO x)≤n:=by
 cases e:toO x with
 |none=>exact Nat.zero_le _
 |some k=>exact ztR (z18 e).2 h
def zty:Option K→Option K→Option K
 |some x,some y=>some (x*y)
 |_,_=>none
def zta:Option K→Option K→Option K
 |some x,some y=>some (x+y)
 |_,_=>none
def ztp:Option K→Option K→Option K
 |some x,some y=>some (x-y)
 |_,_=>none
def zsB:Option K→Option K
 |some x=>some (-x)
 |none=>none
theorem zmB(x y:Option K):osz (zty x y)≤osz x+osz y+1:=by
 cases x<;>cases y<;>first|exact Nat.zero_le _|exact K.sz_mul _ _
theorem zeq(x y:Option K):osz (zta x y)≤osz x+osz y+1:=by
 cases x<;>cases y<;>first|exact Nat.zero_le _|exact K.sz_add _ _
theorem zf4(x y:Option K):osz (ztp x y)≤osz x+osz y+1:=by
 cases x<;>cases y<;>first|exact Nat.zero_le _|exact K.sz_sub _ _
theorem zdt(x:Option K):osz (zsB x)=osz x:=by
 cases x
 · rfl
 · exact K.sz_neg _
theorem zjE(x y:RN)(g:x.ok=false)(a:RN.raw 1000000 x=true):PCall P 37 [x.c,y.c] (.agg U6):=
 j3 (.r 4 ((z1c x a).eqB g) (.c (lq 10 10) .nil)) (by kernel_rfl)
theorem zlv(x y:RN)(g:x.ok=true)(g2:y.ok=false)(a:RN.raw 1000000 x=true)(d:RN.raw 1000000 y=true):PCall P 37 [x.c,y.c] (.agg U6):=
 j3 (.r 4 ((z1c x a).eqB g) (.r 8 ((z1c y d).eqB g2) (.c (lq 10 10) .nil))) (by kernel_rfl)
theorem zmu(x y:RN)(g:x.ok=false)(a:RN.raw 1000000 x=true):PCall P 38 [x.c,y.c] (.agg U6):=
 j3 (.r 4 ((z1c x a).eqB g) (.c (lq 10 10) .nil)) (by kernel_rfl)
theorem zkT(x y:RN)(g:x.ok=true)(g2:y.ok=false)(a:RN.raw 1000000 x=true)(d:RN.raw 1000000 y=true):PCall P 38 [x.c,y.c] (.agg U6):=
 j3 (.r 4 ((z1c x a).eqB g) (.r 8 ((z1c y d).eqB g2) (.c (lq 10 10) .nil))) (by kernel_rfl)
theorem zkz(x:RN)(g:x.ok=false)(a:RN.raw 1000000 x=true):PCall P 41 [x.c] (.agg U6):=
 j3 (.r 3 ((z1c x a).eqB g) (.c (lq 10 10) .nil)) (by kernel_rfl)
theorem z11{x:RN}{k:K}{n:Nat}(h:toO x=some k)(hx:x.raw n=true):k.sz≤n:=ztR (z18 h).2 hx
noncomputable def z3l(x y:RN):RN:=ofO (zta (toO x) (toO y))
noncomputable def z2E(x y:RN):RN:=ofO (ztp (toO x) (toO y))
noncomputable def z9k(x y:RN):RN:=ofO (zty (toO x) (toO y))
noncomputable def zaz(x:RN):RN:=ofO (zsB (toO x))
theorem zaM(x:RN):toO (zaz x)=zsB (toO x):=z7x _
theorem ziv(x y:RN)(hx:x.raw 1000000=true)(hy:y.raw 1000000=true):PCall P 37 [x.c,y.c] (z3l x y).c:=by
 unfold z3l
 cases ex:toO x with
 |none=>exact zjE x y (z0i ex) hx
 |some k=>
  cases ey:toO y with
  |none=>exact zlv x y (z18 ex).1 (z0i ey) hx hy
  |some l=>
   rw[zc7 (z18 ex).2,zc7 (z18 ey).2]
   exact zeK k l (z11 ex hx) (z11 ey hy)
theorem zrH(x y:RN)(hx:x.raw 1000000=true)(hy:y.raw 1000000=true):PCall P 38 [x.c,y.c] (z9k x y).c:=by
 unfold z9k
 cases ex:toO x with
 |none=>exact zmu x y (z0i ex) hx
 |some k=>
  cases ey:toO y with
  |none=>exact zkT x y (z18 ex).1 (z0i ey) hx hy
  |some l=>
   rw[zc7 (z18 ex).2,zc7 (z18 ey).2]
   exact zba k l (z11 ex hx) (z11 ey hy)
theorem zqs(x:RN)(hx:x.raw 1000000=true):PCall P 41 [x.c] (zaz x).c:=by
 unfold zaz
 cases ex:toO x with
 |none=>exact zkz x (z0i ex) hx
 |some k=>
  rw[zc7 (z18 ex).2]
  exact zpl k (z11 ex hx)
theorem zox(x y:Option K):zta x (zsB y)=ztp x y:=by
 cases x<;>cases y<;>rfl
theorem zsf{x y z:RN}{k l m:K}(hx:toO x=some k)(hy:toO y=some l)(hz:toO z=some m):z5f x y z=z7s k l m:=by
 unfold z5f z7s
 rw[(z18 hx).2,(z18 hy).2,(z18 hz).2]
theorem zgq{x y z:RN}(h:toO x=none∨toO y=none∨toO z=none):ok3 x y z=false:=by
 unfold ok3
 rcases h with h|h|h<;>rw[z0i h]<;>simp
abbrev rnB(x y:RN):Bool:=x.b0==y.b0&&(x.s0==y.s0&&true)&&(x.b1==y.b1&&(x.s1==y.s1&&true)&&(x.b2==y.b2&&(x.s2==y.s2&&true)&&(x.b3==y.b3&&(x.s3==y.s3&&true)&&true)))&&(x.b4==y.b4&&(x.s4==y.s4&&true)&&true)
theorem zl6{x y:RN}:rnB x y=true↔x=y:=by
 cases x
 cases y
 simp only[rnB,zdU,Bool.and_eq_true,beq_iff_eq,and_true,RN.mk.injEq,decide_eq_true_eq]
 constructor
 · rintro⟨⟨h0,h1,h2,h3⟩,h4⟩
   exact⟨h0.1,h0.2,h1.1,h1.2,h2.1,h2.2,h3.1,h3.2,h4.1,h4.2⟩
 · rintro⟨a,b,c,d,e,f,g,h,i,j⟩
   exact⟨⟨⟨a,b⟩,⟨c,d⟩,⟨e,f⟩,⟨g,h⟩⟩,i,j⟩
theorem zjB(x y:RN)(a:RN.raw 1000000 y=true)(d:RN.raw 1000000 x=true)(e:RN.raw 1000000 (zaz y)=true):PCall P 39 [x.c,y.c] (RN.c (z3l x (zaz y))):=
 j3 (.r 5 (zqs y a) (.r 6 (ziv x (zaz y) d e) (.c (lq 10 10) .nil))) (by kernel_rfl)
theorem zef(x y:RN)(hx:x.raw 1000000=true)(hy:y.raw 1000000=true):PCall P 39 [x.c,y.c] (z2E x y).c:=by
 have h:=zjB x y hy hx (z19 (by rw[zdt];exact z0U hy))
 have e:z3l x (zaz y)=z2E x y:=by unfold z3l z2E;rw[zaM,zox]
 rw[e]at h
 exact h
theorem zju{x y:RN}{n:Nat}(hx:x.raw n=true)(hy:y.raw n=true):(z3l x y).raw (n+n+1)=true:=by
 have h1:=z0U hx
 have h2:=z0U hy
 have h3:=zeq (toO x) (toO y)
 exact z19 (by omega)
theorem zlo{x y:RN}{n:Nat}(hx:x.raw n=true)(hy:y.raw n=true):(z2E x y).raw (n+n+1)=true:=by
 have h1:=z0U hx
 have h2:=z0U hy
 have h3:=zf4 (toO x) (toO y)
 exact z19 (by omega)
theorem zme{x:RN}{n:Nat}(hx:x.raw n=true):(zaz x).raw n=true:=z19 (by rw[zdt];exact z0U hx)
structure VN where
 x:RN
 y:RN
 z:RN
namespace VN
def c(v:VN):CV:=z5f v.x v.y v.z
def raw(n:Nat)(v:VN):Bool:=zp2 n v.x v.y v.z
def ok(v:VN):Bool:=ok3 v.x v.y v.z
def zero:VN:=⟨.zero,.zero,.zero⟩
theorem raw_mono{v:VN}{n m:Nat}(h:v.raw n=true)(hm:n≤m):v.raw m=true:=by
 obtain⟨hx,hy,hz⟩:=z0z.1 h
 exact z0z.2 ⟨RN.raw_mono hx hm,RN.raw_mono hy hm,RN.raw_mono hz hm⟩
end VN
structure V3 where
 x:K
 y:K
 z:K
def V3.c(v:V3):CV:=z7s v.x v.y v.z
def V3.sz(v:V3):Nat:=max v.x.sz (max v.y.sz v.z.sz)
noncomputable def toV(v:VN):Option V3:=match toO v.x,toO v.y,toO v.z with
 |some x,some y,some z=>some ⟨x,y,z⟩
 |_,_,_=>none
def ofV:Option V3→VN
 |none=> .zero
 |some v=>⟨.ofK v.x,.ofK v.y,.ofK v.z⟩
theorem zdm(o:Option V3):toV (ofV o)=o:=by
 cases o with
 |none=>unfold toV ofV VN.zero;simp only[z5j]
 |some v=>unfold toV ofV;simp only[z7K]
theorem z7z{v:VN}{k:V3}(h:toV v=some k):toO v.x=some k.x∧toO v.y=some k.y∧toO v.z=some k.z:=by
 unfold toV at h
 split at h
 · rename_i x y z h1 h2 h3
   injection h with h
   subst h
   exact⟨h1,h2,h3⟩
 · cases h
theorem z3a{v:VN}(h:toV v=none):v.ok=false:=by
 unfold toV at h
 split at h
 · cases h
 · rename_i hx
   refine zgq ?_
   cases e1:toO v.x with
   |none=>exact .inl rfl
   |some a=>
    cases e2:toO v.y with
    |none=>exact .inr (.inl rfl)
    |some b=>
     cases e3:toO v.z with
     |none=>exact .inr (.inr rfl)
     |some c=>exact(hx a b c e1 e2 e3).elim
theorem zas{v:VN}{k:V3}(h:toV v=some k):v.ok=true:=by
 obtain⟨h1,h2,h3⟩:=z7z h
 show ok3 v.x v.y v.z=true
 unfold ok3
 rw[(z18 h1).1,(z18 h2).1,(z18 h3).1];rfl
theorem zbJ{v:VN}{k:V3}(h:toV v=some k):v.c=k.c:=by
 obtain⟨h1,h2,h3⟩:=z7z h
 exact zsf h1 h2 h3
theorem z1p{v:VN}{k:V3}{n:Nat}(h:toV v=some k)(hr:v.raw n=true):k.x.sz≤n∧k.y.sz≤n∧k.z.sz≤n:=by
 obtain⟨h1,h2,h3⟩:=z7z h
 obtain⟨a,b,c⟩:=z0z.1 hr
 exact⟨z11 h1 a,z11 h2 b,z11 h3 c⟩
def vsz:Option V3→Nat
 |none=>0
 |some v=>v.sz
theorem z7i{o:Option V3}{n:Nat}(h:vsz o≤n):(ofV o).raw n=true:=by
 cases o with
 |none=>exact z0z.2 ⟨z19 (o:=none) (Nat.zero_le _),z19 (o:=none) (Nat.zero_le _),z19 (o:=none) (Nat.zero_le _)⟩
 |some v=>
  have h':max v.x.sz (max v.y.sz v.z.sz)≤n:=h
  exact z0z.2 ⟨RN.ofK_raw v.x (by omega),RN.ofK_raw v.y (by omega),RN.ofK_raw v.z (by omega)⟩
theorem zoq(v:VN)(h1:(v.x.ok)=true)(h2:(v.y.ok)=true)(h3:(v.z.ok)=true)(a:RN.raw 1000000 v.x=true)(d:RN.raw 1000000 v.y=true)(e:RN.raw 1000000 v.z=true):PCall P 99 [v.c] (.lit (.bool true)):=
 j3 (.r 4 ((z1c v.x a).eqB h1) (.r 8 ((z1c v.y d).eqB h2) (.r 13 ((z1c v.z e).eqB h3) .nil))) (by kernel_rfl)
theorem znI(v:VN)(h1:(v.x.ok)=true)(h2:(v.y.ok)=true)(h3:(v.z.ok)=false)(a:RN.raw 1000000 v.x=true)(d:RN.raw 1000000 v.y=true)(e:RN.raw 1000000 v.z=true):PCall P 99 [v.c] (.lit (.bool false)):=
 j3 (.r 4 ((z1c v.x a).eqB h1) (.r 8 ((z1c v.y d).eqB h2) (.r 13 ((z1c v.z e).eqB h3) .nil))) (by kernel_rfl)
theorem zqB(v:VN)(h1:(v.x.ok)=true)(h2:(v.y.ok)=false)(a:RN.raw 1000000 v.x=true)(d:RN.raw 1000000 v.y=true):PCall P 99 [v.c] (.lit (.bool false)):=
 j3 (.r 4 ((z1c v.x a).eqB h1) (.r 8 ((z1c v.y d).eqB h2) .nil)) (by kernel_rfl)
theorem zrT(v:VN)(h1:(v.x.ok)=false)(a:RN.raw 1000000 v.x=true):PCall P 99 [v.c] (.lit (.bool false)):=
 j3 (.r 4 ((z1c v.x a).eqB h1) .nil) (by kernel_rfl)
theorem zku(x y z:K)(a:x.sz≤1000000)(c:y.sz≤1000000)(d:z.sz≤1000000):PCall P 99 [z7s x y z] (.lit (.bool true)):=
 j3 (.r 4 (z16 x a) (.r 8 (z16 y c) (.r 13 (z16 z d) .nil))) (by kernel_rfl)
theorem zaa(v:VN)(h:v.raw 1000000=true):PCall P 99 [v.c] (.lit (.bool v.ok)):=by
 obtain⟨hx,hy,hz⟩:=z0z.1 h
 unfold VN.ok ok3
 cases ex:v.x.ok
 · exact zrT v ex hx
 · cases ey:v.y.ok
   · exact zqB v ex ey hx hy
   · cases ez:v.z.ok
     · exact znI v ex ey ez hx hy hz
     · exact zoq v ex ey ez hx hy hz
theorem zhS(x y z:K)(hx:x.sz≤1000000)(hy:y.sz≤1000000)(hz:z.sz≤1000000):PCall P 99 [z7s x y z] (.lit (.bool true)):=zku x y z hx hy hz
theorem zko(v w:VN)(g:v.ok=false)(a:VN.raw 1000000 v=true):PCall P 173 [v.c,w.c] (.agg U6):=
 j3 (.r 4 ((zaa v a).eqB g) (.c (lq 10 10) .nil)) (by kernel_rfl)
theorem zj8(v w:VN)(g:v.ok=true)(g2:w.ok=false)(a:VN.raw 1000000 v=true)(d:VN.raw 1000000 w=true):PCall P 173 [v.c,w.c] (.agg U6):=
 j3 (.r 4 ((zaa v a).eqB g) (.r 8 ((zaa w d).eqB g2) (.c (lq 10 10) .nil))) (by kernel_rfl)
theorem zky(x y z x' y' z':K)(a:x.sz≤1000000)(d:y.sz≤1000000)(e:z.sz≤1000000)(f:x'.sz≤1000000)(g:y'.sz≤1000000)(i:z'.sz≤1000000)(j:x.sz≤1000000)(k:x'.sz≤1000000)(l:y.sz≤1000000)(m:y'.sz≤1000000)(n:(x*x').sz≤1000000)(o:(y*y').sz≤1000000)(p:z.sz≤1000000)(q:z'.sz≤1000000)(s:(x*x'+y*y').sz≤1000000)(t:(z*z').sz≤1000000):PCall P 173 [z7s x y z,z7s x' y' z'] (Z0 (x*x'+y*y'+z*z')):=
 j3 (.r 4 (zhS x y z a d e) (.r 8 (zhS x' y' z' f g i) (.r 16 (zba x x' j k) (.r 21 (zba y y' l m) (.r 22 (zeK (x*x') (y*y') n o) (.r 27 (zba z z' p q) (.r 28 (zeK (x*x'+y*y') (z*z') s t) (.c (lq 10 10) .nil)))))))) (by kernel_rfl)
theorem zmD(a b c:Int)(d:(-9223372036854775808:Int)≤a∧a≤9223372036854775807)(e:(-9223372036854775808:Int)≤b∧b≤9223372036854775807)(f:(-9223372036854775808:Int)≤c∧c≤9223372036854775807):PCall P 63 [j5 a,j5 b,j5 c] (z7s (K.ofInt a) (K.ofInt b) (K.ofInt c)):=
 j3 (.r 2 (z49 a d) (.r 4 (z49 b e) (.r 6 (z49 c f) (.c (lq 30 30) .nil)))) (by kernel_rfl)
namespace V3
def add(a b:V3):V3:=⟨a.x+b.x,a.y+b.y,a.z+b.z⟩
def sub(a b:V3):V3:=⟨a.x-b.x,a.y-b.y,a.z-b.z⟩
def neg(a:V3):V3:=⟨-a.x,-a.y,-a.z⟩
def scale(a:V3)(k:K):V3:=⟨a.x*k,a.y*k,a.z*k⟩
def dot(a b:V3):K:=a.x*b.x+a.y*b.y+a.z*b.z
def cross(a b:V3):V3:=⟨a.y*b.z-a.z*b.y,a.z*b.x-a.x*b.z,a.x*b.y-a.y*b.x⟩
end V3
def o2{α β γ:Type}(f:α→β→γ):Option α→Option β→Option γ
 |some a,some b=>some (f a b)
 |_,_=>none
noncomputable def z0G(v w:VN):VN:=ofV (o2 V3.add (toV v) (toV w))
noncomputable def Q0(v:VN)(k:RN):VN:=ofV (o2 V3.scale (toV v) (toO k))
noncomputable def z3y(v w:VN):RN:=ofO (o2 V3.dot (toV v) (toV w))
noncomputable def z3Z(v w:VN):VN:=ofV (o2 V3.cross (toV v) (toV w))
theorem zkr(x y:RN)(g:x.ok=false)(a:RN.raw 1000000 x=true):PCall P 137 [x.c,y.c] (.agg U6):=
 j3 (.r 4 ((z30 x a).eqB g) (.c (lq 10 10) .nil)) (by kernel_rfl)
theorem zkB(x y:RN)(g:x.ok=true)(g2:y.ok=false)(a:RN.raw 1000000 x=true)(d:RN.raw 1000000 y=true):PCall P 137 [x.c,y.c] (.agg U6):=
 j3 (.r 4 ((z30 x a).eqB g) (.r 8 ((z30 y d).eqB g2) (.c (lq 10 10) .nil))) (by kernel_rfl)
theorem zmX(x y:RN)(g:x.ok=false)(a:RN.raw 1000000 x=true):PCall P 136 [x.c,y.c] (.agg U6):=
 j3 (.r 4 ((z30 x a).eqB g) (.c (lq 10 10) .nil)) (by kernel_rfl)
theorem zkL(x y:RN)(g:x.ok=true)(g2:y.ok=false)(a:RN.raw 1000000 x=true)(d:RN.raw 1000000 y=true):PCall P 136 [x.c,y.c] (.agg U6):=
 j3 (.r 4 ((z30 x a).eqB g) (.r 8 ((z30 y d).eqB g2) (.c (lq 10 10) .nil))) (by kernel_rfl)
theorem zmd(x:RN)(g:x.ok=false)(a:RN.raw 1000000 x=true):PCall P 121 [x.c] (.agg U6):=
 j3 (.r 3 ((z30 x a).eqB g) (.c (lq 10 10) .nil)) (by kernel_rfl)
theorem zjL(x:RN)(g:x.ok=false)(a:RN.raw 1000000 x=true):PCall P 146 [x.c] (.lit (.int .i64 0)):=
 j3 (.r 3 ((z30 x a).eqB g) .nil) (by kernel_rfl)
theorem zlx(x y:RN)(g:x.ok=false)(a:RN.raw 1000000 x=true):PCall P 147 [x.c,y.c] (.tup [.agg U6,.lit (.int .i64 1)]):=
 j3 (.r 5 ((z30 x a).eqB g) (.c (lq 10 10) .nil)) (by kernel_rfl)
theorem ziN(x y:RN)(g:x.ok=true)(g2:y.ok=false)(a:RN.raw 1000000 x=true)(d:RN.raw 1000000 y=true):PCall P 147 [x.c,y.c] (.tup [.agg U6,.lit (.int .i64 1)]):=
 j3 (.r 5 ((z30 x a).eqB g) (.r 9 ((z30 y d).eqB g2) (.c (lq 10 10) .nil))) (by kernel_rfl)
theorem zaN(x y:RN)(hx:x.raw 1000000=true)(hy:y.raw 1000000=true):PCall P 137 [x.c,y.c] (z3l x y).c:=by
 unfold z3l
 cases ex:toO x with
 |none=>exact zkr x y (z0i ex) hx
 |some k=>
  cases ey:toO y with
  |none=>exact zkB x y (z18 ex).1 (z0i ey) hx hy
  |some l=>
   have a:=z11 ex hx
   have b:=z11 ey hy
   rw[zc7 (z18 ex).2,zc7 (z18 ey).2]
   exact z6C k l (by omega)
theorem zq3(x y:RN)(hx:x.raw 1000000=true)(hy:y.raw 1000000=true):PCall P 136 [x.c,y.c] (z9k x y).c:=by
 unfold z9k
 cases ex:toO x with
 |none=>exact zmX x y (z0i ex) hx
 |some k=>
  cases ey:toO y with
  |none=>exact zkL x y (z18 ex).1 (z0i ey) hx hy
  |some l=>
   have a:=z11 ex hx
   have b:=z11 ey hy
   rw[zc7 (z18 ex).2,zc7 (z18 ey).2]
   exact z6d k l (by omega)
theorem zr9(x:RN)(hx:x.raw 1000000=true):PCall P 121 [x.c] (zaz x).c:=by
 unfold zaz
 cases ex:toO x with
 |none=>exact zmd x (z0i ex) hx
 |some k=>
  have a:=z11 ex hx
  rw[zc7 (z18 ex).2]
  exact zaE k (by simp only[Smk];omega)
theorem zrZ(a b c:Int)(h1:(a==b)=true):PCall P 208 [j5 a,j5 b,j5 c] (.lit (.int .i64 a)):=
 j3 (.b 4 h1 .nil) (by kernel_rfl)
theorem zoz(a b c:Int)(h1:(a==b)=false)(h2:(b==0)=true):PCall P 208 [j5 a,j5 b,j5 c] (.lit (.int .i64 a)):=
 j3 (.b 4 h1 (.b 9 h2 .nil)) (by kernel_rfl)
theorem zqX(a b c:Int)(h1:(a==b)=false)(h2:(b==0)=false)(h3:(a==0)=true):PCall P 208 [j5 a,j5 b,j5 c] (.lit (.int .i64 b)):=
 j3 (.b 4 h1 (.b 9 h2 (.b 13 h3 .nil))) (by kernel_rfl)
theorem znX(a b c:Int)(h1:(a==b)=false)(h2:(b==0)=false)(h3:(a==0)=false):PCall P 208 [j5 a,j5 b,j5 c] (.lit (.int .i64 (i64.wrap (a*c)))):=
 j3 (.b 4 h1 (.b 9 h2 (.b 13 h3 .nil))) (by kernel_rfl)
theorem zrl(k a b:Int)(d:(-9223372036854775808:Int)≤k∧k≤9223372036854775807)(e:SmlZ a)(f:SmlZ b)(g:Sml (a.natAbs*b.natAbs))(i:SmlZ k)(j:SmlZ (a*b))(l:Sml (k.natAbs*(a*b).natAbs)):PCall P 210 [j5 k,J2 a,J2 b] (.agg [.lit (.bool (decide (k*(a*b)<0))),.lit (.string (bytesOf (k*(a*b)).natAbs))]):=
 j3 (.r 4 (z0u k d) (.r 7 (z0a a b e f g) (.r 8 (z0a k (a*b) i j l) (.c (lq 2 2) .nil)))) (by kernel_rfl)
def z6R(a b c:Int):Int:=if a=b∨b=0 then a else if a=0 then b else a*c
theorem z2Z(a b c:Int)(ha: -1≤a∧a≤1)(hc: -1≤c∧c≤1):PCall P 208 [j5 a,j5 b,j5 c] (j5 (z6R a b c)):=by
 unfold z6R
 by_cases h1:a=b
 · rw[if_pos (.inl h1)]
   exact zrZ a b c (by simp[h1])
 · by_cases h2:b=0
   · rw[if_pos (.inr h2)]
     exact zoz a b c (by simp[h1]) (by simp[h2])
   · rw[if_neg (by rintro(h|h)<;>contradiction)]
     by_cases h3:a=0
     · rw[if_pos h3]
       exact zqX a b c (by simp[h1]) (by simp[h2]) (by simp[h3])
     · rw[if_neg h3]
       have:=znX a b c (by simp[h1]) (by simp[h2]) (by simp[h3])
       have hw:i64.wrap (a*c)=a*c:=by
        have:a= -1∨a=1:=by omega
        rcases this with h|h<;>rw[h]<;>exact w64 (by omega)
       rwa[hw]at this
theorem za8(k a b:Int){n m:Nat}(hk: -100≤k∧k≤100)(ha:By n a)(hb:By m b)(hn:n+m+1<1073741824):PCall P 210 [j5 k,J2 a,J2 b] (J2 (k*(a*b))):=by
 have hk':By 1 k:=by unfold By;omega
 have hab:=ha.mul hb
 exact zrl k a b (by omega) (ha.sml (by omega)) (hb.sml (by omega)) (ha.sm2 hb (by omega)) (hk'.sml (by decide)) (hab.sml (by omega)) (hk'.sm2 hab (by omega))
theorem zqE(a b:Int)(c:SmlZ a)(d:SmlZ b)(e:Sml (a.natAbs+b.natAbs)):PCall P 246 [J2 a,J2 b] (.lit (.int .i64 (a-b).sign)):=
 j3 (.r 5 (z7U a b c d e) (.r 6 (z0m (a-b)) .nil)) (by kernel_rfl)
end Go.Fw
