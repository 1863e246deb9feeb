/- A part of the proof that the law returns true for every input: an executor for the model's code, and what functions of the program compute. -/
import Derived.Test.YtcafjpldfnegiaaGreatDoorB11
import Derived.Test.YtcafjpldfnegiaaGreatDoorB15
import Derived.Test.YtcafjpldfnegiaaGreatDoorB22
import Derived.Test.YtcafjpldfnegiaaGreatDoorB40
import Derived.KernelRfl
open Go
namespace Go.Fw
set_option maxRecDepth 100000
def f4(a b c d:Int):Nat→Int
 |0=>a
 |1=>b
 |2=>c
 |_=>d
def By4(n:Nat)(a b c d:Int):Prop:=By n a∧By n b∧By n c∧By n d
theorem By4.f{n:Nat}{a b c d:Int}(h:By4 n a b c d)(i:Nat):(f4 a b c d i).natAbs<256^n:=by
 obtain⟨h0,h1,h2,h3⟩:=h
 match i with
 |0=>exact h0
 |1=>exact h1
 |2=>exact h2
 |n+3=>exact h3
theorem z9N (a0 a1 a2 a3 b0 b1 b2 b3 : Int) (hp : ∃ n, n ≤ 500000000 ∧ By4 n a0 a1 a2 a3 ∧ By4 n b0 b1 b2 b3) : PCall P 130 [c4C a0 a1 a2 a3, c4C b0 b1 b2 b3]
    (c4C (a0*b0+2*a1*b1+3*a2*b2+6*a3*b3) (a0*b1+a1*b0+3*a2*b3+3*a3*b2) (a0*b2+a2*b0+2*a1*b3+2*a3*b1) (a0*b3+a3*b0+a1*b2+a2*b1)):=by
 obtain⟨n,hn,ha,hb⟩:=hp
 exact zeS (X:=f4 a0 a1 a2 a3) (Y:=f4 b0 b1 b2 b3) (p:=n) (q:=n) (by omega) ha.f hb.f
end Go.Fw
open Go IntKind
namespace Go.Fw
set_option maxRecDepth 100000
theorem zmI(x y:K)(g1:z7z x=false)(s4_0:x.sz≤1000000)(s8_0:y.sz≤1000000)(s26_0: ∃n,n≤500000000∧By4 n x.c0 x.c1 x.c2 x.c3∧By4 n y.c0 y.c1 y.c2 y.c3)(s31_0:Sml x.d.natAbs)(s31_1:Sml y.d.natAbs)(s31_2:Sml (x.d.natAbs*y.d.natAbs))(s32_0:x.d*y.d≠0)(s32_1:SmlZ (x.c0*y.c0+2*x.c1*y.c1+3*x.c2*y.c2+6*x.c3*y.c3))(s32_2:SmlZ (x.c0*y.c1+x.c1*y.c0+3*x.c2*y.c3+3*x.c3*y.c2))(s32_3:SmlZ (x.c0*y.c2+x.c2*y.c0+2*x.c1*y.c3+2*x.c3*y.c1))(s32_4:SmlZ (x.c0*y.c3+x.c3*y.c0+x.c1*y.c2+x.c2*y.c1))(s32_5:SmlZ (x.d*y.d)):PCall P 38 [Z4 x,Z4 y] (Z4 (K.of (x.c0*y.c0+2*x.c1*y.c1+3*x.c2*y.c2+6*x.c3*y.c3) (x.c0*y.c1+x.c1*y.c0+3*x.c2*y.c3+3*x.c3*y.c2) (x.c0*y.c2+x.c2*y.c0+2*x.c1*y.c3+2*x.c3*y.c1) (x.c0*y.c3+x.c3*y.c0+x.c1*y.c2+x.c2*y.c1) (x.d*y.d))):=
 j5 (.r 4 (z2b (x) s4_0) (.r 8 (z2b (y) s8_0) (.r 13 (z43 (x)) (.c (lq 5 5) (.b 21 g1 (.r 26 (z9N (x.c0) (x.c1) (x.c2) (x.c3) (y.c0) (y.c1) (y.c2) (y.c3) s26_0) (.r 31 (Y0 (x.d) (y.d) s31_0 s31_1 s31_2) (.r 32 (z9q (x.c0*y.c0+2*x.c1*y.c1+3*x.c2*y.c2+6*x.c3*y.c3) (x.c0*y.c1+x.c1*y.c0+3*x.c2*y.c3+3*x.c3*y.c2) (x.c0*y.c2+x.c2*y.c0+2*x.c1*y.c3+2*x.c3*y.c1) (x.c0*y.c3+x.c3*y.c0+x.c1*y.c2+x.c2*y.c1) (x.d*y.d) s32_0 s32_1 s32_2 s32_3 s32_4 s32_5) (.c (lq 10 10) .nil))))))))) (by kernel_rfl)
theorem zlx(x y:K)(g1:z7z x=true)(g2:z7z y=false)(s4_0:x.sz≤1000000)(s8_0:y.sz≤1000000)(s36_0: ∃n,n≤500000000∧By4 n x.c0 x.c1 x.c2 x.c3∧By4 n y.c0 y.c1 y.c2 y.c3)(s41_0:Sml x.d.natAbs)(s41_1:Sml y.d.natAbs)(s41_2:Sml (x.d.natAbs*y.d.natAbs))(s42_0:x.d*y.d≠0)(s42_1:SmlZ (x.c0*y.c0+2*x.c1*y.c1+3*x.c2*y.c2+6*x.c3*y.c3))(s42_2:SmlZ (x.c0*y.c1+x.c1*y.c0+3*x.c2*y.c3+3*x.c3*y.c2))(s42_3:SmlZ (x.c0*y.c2+x.c2*y.c0+2*x.c1*y.c3+2*x.c3*y.c1))(s42_4:SmlZ (x.c0*y.c3+x.c3*y.c0+x.c1*y.c2+x.c2*y.c1))(s42_5:SmlZ (x.d*y.d)):PCall P 38 [Z4 x,Z4 y] (Z4 (K.of (x.c0*y.c0+2*x.c1*y.c1+3*x.c2*y.c2+6*x.c3*y.c3) (x.c0*y.c1+x.c1*y.c0+3*x.c2*y.c3+3*x.c3*y.c2) (x.c0*y.c2+x.c2*y.c0+2*x.c1*y.c3+2*x.c3*y.c1) (x.c0*y.c3+x.c3*y.c0+x.c1*y.c2+x.c2*y.c1) (x.d*y.d))):=
 j5 (.r 4 (z2b (x) s4_0) (.r 8 (z2b (y) s8_0) (.r 13 (z43 (x)) (.c (lq 5 5) (.b 21 g1 (.r 23 (z43 (y)) (.c (lq 5 5) (.b 31 g2 (.r 36 (z9N (x.c0) (x.c1) (x.c2) (x.c3) (y.c0) (y.c1) (y.c2) (y.c3) s36_0) (.r 41 (Y0 (x.d) (y.d) s41_0 s41_1 s41_2) (.r 42 (z9q (x.c0*y.c0+2*x.c1*y.c1+3*x.c2*y.c2+6*x.c3*y.c3) (x.c0*y.c1+x.c1*y.c0+3*x.c2*y.c3+3*x.c3*y.c2) (x.c0*y.c2+x.c2*y.c0+2*x.c1*y.c3+2*x.c3*y.c1) (x.c0*y.c3+x.c3*y.c0+x.c1*y.c2+x.c2*y.c1) (x.d*y.d) s42_0 s42_1 s42_2 s42_3 s42_4 s42_5) (.c (lq 10 10) .nil)))))))))))) (by kernel_rfl)
end Go.Fw
open Go
namespace Go.Fw
set_option maxRecDepth 100000
theorem zg1 {n : Nat} (hn : n + n + 1 < 1073741824) {a0 a1 a2 a3 b0 b1 b2 b3 : Int} (ha : By4 n a0 a1 a2 a3) (hb : By4 n b0 b1 b2 b3) :
    SmlZ (a0*b0+2*a1*b1+3*a2*b2+6*a3*b3)∧SmlZ (a0*b1+a1*b0+3*a2*b3+3*a3*b2)∧SmlZ (a0*b2+a2*b0+2*a1*b3+2*a3*b1)∧SmlZ (a0*b3+a3*b0+a1*b2+a2*b1):=by
 obtain⟨x0,x1,x2,x3⟩:=ha
 obtain⟨y0,y1,y2,y3⟩:=hb
 have c:=fun(k a b:Int)=>Int.mul_assoc k a b
 have key: ∀{a b:Int},By n a→By n b→(a*b).natAbs<256^(n+n):=fun ha hb=>ha.mul hb
 obtain⟨M,hM⟩: ∃M,M=256^(n+n):=⟨_,rfl⟩
 have fin: ∀z:Int,z.natAbs<256*M→SmlZ z:=fun z hz=>Sml.of_lt (k:=n+n+1) (by rw[Nat.pow_succ,←hM,Nat.mul_comm];exact hz) hn
 refine⟨fin _ ?_,fin _ ?_,fin _ ?_,fin _ ?_⟩
 · have h1:=key x0 y0;have h2:=key x1 y1;have h3:=key x2 y2;have h4:=key x3 y3
   rw[←hM]at h1 h2 h3 h4
   rw[c,c,c];omega
 · have h1:=key x0 y1;have h2:=key x1 y0;have h3:=key x2 y3;have h4:=key x3 y2
   rw[←hM]at h1 h2 h3 h4
   rw[c,c];omega
 · have h1:=key x0 y2;have h2:=key x2 y0;have h3:=key x1 y3;have h4:=key x3 y1
   rw[←hM]at h1 h2 h3 h4
   rw[c,c];omega
 · have h1:=key x0 y3;have h2:=key x3 y0;have h3:=key x1 y2;have h4:=key x2 y1
   rw[←hM]at h1 h2 h3 h4
   omega
theorem zby(x y:K)(hx:x.sz≤1000000)(hy:y.sz≤1000000):PCall P 38 [Z4 x,Z4 y] (Z4 (x*y)):=by
 have hxs:=hx
 have hys:=hy
 obtain⟨x0,x1,x2,x3,xd⟩:=By.of_sz hx
 obtain⟨y0,y1,y2,y3,yd⟩:=By.of_sz hy
 have L:(1000000:Nat)<1073741824:=by decide
 have L2:(1000000:Nat)+1000000<1073741824:=by decide
 have hb:By4 1000000 x.c0 x.c1 x.c2 x.c3:=⟨x0,x1,x2,x3⟩
 have hb':By4 1000000 y.c0 y.c1 y.c2 y.c3:=⟨y0,y1,y2,y3⟩
 obtain⟨s0,s1,s2,s3⟩:=zg1 (by decide) hb hb'
 have hex: ∃n,n≤500000000∧By4 n x.c0 x.c1 x.c2 x.c3∧By4 n y.c0 y.c1 y.c2 y.c3:=⟨1000000,by decide,hb,hb'⟩
 have dn:x.d*y.d≠0:=Int.mul_ne_zero x.d_ne y.d_ne
 cases h1:z7z x
 · exact zmI x y h1 hxs hys hex (xd.sml L) (yd.sml L) (xd.sm2 yd L2) dn s0 s1 s2 s3 ((xd.mul yd).sml L2)
 · cases h2:z7z y
   · exact zlx x y h1 h2 hxs hys hex (xd.sml L) (yd.sml L) (xd.sm2 yd L2) dn s0 s1 s2 s3 ((xd.mul yd).sml L2)
   · exact zlH x y (z3O h1) (z3O h2)
end Go.Fw
open Go IntKind
namespace Go.Fw
set_option maxRecDepth 100000
theorem zk9(x y:K)(s5_0:Smk y)(s6_0:x.sz+(-y).sz+2<1073741824):PCall P 135 [Z4 x,Z4 y] (Z4 (x+ -y)):=
 j5 (.r 5 (z9T (y) s5_0) (.r 6 (z6y (x) (-y) s6_0) (.c (lq 10 10) .nil))) (by kernel_rfl)
end Go.Fw
open Go
namespace Go.Fw
theorem zkB(x y:K)(h:x.sz+y.sz+2<1073741824):PCall P 135 [Z4 x,Z4 y] (Z4 (x-y)):=zk9 x y (by simp only[Smk];omega) (by rw[K.sz_neg];exact h)
end Go.Fw
open Go
namespace Go.Fw
set_option maxRecDepth 100000
theorem z9s{x:K}(h:zkn x=true):x.sz≤1:=by
 simp only[zkn,Bool.and_eq_true,decide_eq_true_eq]at h
 rw[K.sz_le]
 exact⟨h.1.1.1.1,h.1.1.1.2,h.1.1.2,h.1.2,h.2⟩
theorem zgn(i:Int):(z4D i).sz≤1:=by
 obtain⟨a,ha⟩:=zp1 i
 rw[zlA ha];exact z9s (zmh a).1
theorem zgb(i:Int):(z7B i).sz≤1:=by
 obtain⟨a,ha⟩:=zp1 i
 rw[znI ha];exact z9s (zmh a).2
end Go.Fw
open Go
namespace Go.Fw
set_option maxRecDepth 100000
def z2k:List CV:=[.lit (.bool false),X6 ⟨#[]⟩,.lit (.bool false),X6 ⟨#[]⟩,.lit (.bool false),X6 ⟨#[]⟩,.lit (.bool false),X6 ⟨#[]⟩,.lit (.bool false),X6 ⟨#[]⟩]
def z1t:CV:= .agg (z2k++(z2k++z2k))
end Go.Fw
open Go
namespace Go.Fw
set_option maxRecDepth 100000
def zob(n:Nat)(x y z:RN):Bool:=x.raw n&&(y.raw n&&z.raw n)
def ok3(x y z:RN):Bool:=x.ok&&(y.ok&&z.ok)
theorem z0n{n:Nat}{x y z:RN}:zob n x y z=true↔x.raw n=true∧y.raw n=true∧z.raw n=true:=by simp[zob]
theorem RN.raw_mono{x:RN}{n m:Nat}(h:x.raw n=true)(hm:n≤m):x.raw m=true:=by
 unfold RN.raw at h ⊢
 simp only[Bool.and_eq_true,decide_eq_true_eq]at h ⊢
 omega
end Go.Fw
open Go
namespace Go.Fw
set_option maxRecDepth 100000
theorem z2D{a b:ByteArray}(h:X6 a=X6 b):a=b:=by injection h with h;injection h
theorem zpc{x:RN}{k:K}{n:Nat}(h:x.l=zax k)(hr:x.raw n=true):k.sz≤n:=by
 unfold RN.l zax at h
 simp only[List.cons.injEq,and_true]at h
 obtain⟨_,e0,_,e1,_,e2,_,e3,_,e4⟩:=h
 have f0:=z2D e0
 have f1:=z2D e1
 have f2:=z2D e2
 have f3:=z2D e3
 have f4:=z2D e4
 unfold RN.raw at hr
 simp only[Bool.and_eq_true,decide_eq_true_eq]at hr
 rw[f0,f1,f2,f3,f4]at hr
 exact K.sz_le.2 ⟨V5.1 hr.1.1.1.1,V5.1 hr.1.1.1.2,V5.1 hr.1.1.2,V5.1 hr.1.2,V5.1 hr.2⟩
def RN.zero:RN:=⟨false,⟨#[]⟩,false,⟨#[]⟩,false,⟨#[]⟩,false,⟨#[]⟩,false,⟨#[]⟩⟩
end Go.Fw
open Go
namespace Go.Fw
set_option maxRecDepth 100000
theorem z2p{a b:Int}(h1:CV.lit (.bool (decide (a<0)))=CV.lit (.bool (decide (b<0))))(h2:X6 (bytesOf a.natAbs)=X6 (bytesOf b.natAbs)):a=b:=by
 have e2:=z4Z (z2D h2)
 injection h1 with h1
 injection h1 with h1
 rw[decide_eq_decide]at h1
 omega
theorem ze0{x y:K}(h:zax x=zax y):x=y:=by
 unfold zax at h
 simp only[List.cons.injEq,and_true]at h
 obtain⟨a0,b0,a1,b1,a2,b2,a3,b3,a4,b4⟩:=h
 have e0:=z2p a0 b0
 have e1:=z2p a1 b1
 have e2:=z2p a2 b2
 have e3:=z2p a3 b3
 have e4:=z2p a4 b4
 cases x
 cases y
 simp only at e0 e1 e2 e3 e4
 subst e0 e1 e2 e3 e4
 rfl
noncomputable def toO(x:RN):Option K:=if h:x.ok=true then some (RN.ok_k h).choose else none
def ofO:Option K→RN
 |none=> .zero
 |some k=> .ofK k
theorem zjP{x:RN}(h:x.ok=true): ∃k,toO x=some k∧x.l=zax k:=⟨(RN.ok_k h).choose,dif_pos h,(RN.ok_k h).choose_spec⟩
theorem zbr{x:RN}(h:x.ok=false):toO x=none:=dif_neg (by rw[h];decide)
theorem z6P(k:K):toO (.ofK k)=some k:=by
 obtain⟨k',h1,h2⟩:=zjP (RN.ofK_ok k)
 rw[RN.ofK_l]at h2
 rw[h1,ze0 h2]
theorem z4R:toO .zero=none:=zbr (by decide)
theorem z79(o:Option K):toO (ofO o)=o:=by
 cases o with
 |none=>exact z4R
 |some k=>exact z6P k
theorem z2h{x:RN}{k:K}(h:toO x=some k):x.ok=true∧x.l=zax k:=by
 cases e:x.ok
 · rw[zbr e]at h;cases h
 · obtain⟨k',h1,h2⟩:=zjP e
   rw[h1]at h
   injection h with h
   subst h
   exact⟨rfl,h2⟩
theorem z1i{x:RN}(h:toO x=none):x.ok=false:=by
 cases e:x.ok
 · rfl
 · obtain⟨k',h1,_⟩:=zjP e
   rw[h1]at h;cases h
theorem zkc{x:RN}{k:K}(h:x.l=zax k):x.c=Z4 k:=by
 show CV.agg x.l=_
 rw[h];rfl
def osz:Option K→Nat
 |none=>0
 |some k=>k.sz
theorem z2z{o:Option K}{n:Nat}(h:osz o≤n):(ofO o).raw n=true:=by
 cases o with
 |none=>
  show RN.raw n .zero=true
  have h0:decide ((⟨#[]⟩:ByteArray).size≤n)=true:=decide_eq_true (Nat.zero_le _)
  show(decide ((⟨#[]⟩:ByteArray).size≤n)&&decide ((⟨#[]⟩:ByteArray).size≤n)&&decide ((⟨#[]⟩:ByteArray).size≤n)&&decide ((⟨#[]⟩:ByteArray).size≤n)&&decide ((⟨#[]⟩:ByteArray).size≤n))=true
  generalize decide ((⟨#[]⟩:ByteArray).size≤n)=q at h0
  subst h0;rfl
 |some k=>exact RN.ofK_raw k h
theorem z32{x:RN}{n:Nat}(h:x.raw n=true):osz (toO x)≤n:=by
 cases e:toO x with
 |none=>exact Nat.zero_le _
 |some k=>exact zpc (z2h e).2 h
def zow:Option K→Option K→Option K
 |some x,some y=>some (x+y)
 |_,_=>none
def zoA:Option K→Option K→Option K
 |some x,some y=>some (x-y)
 |_,_=>none
def zoo:Option K→Option K
 |some x=>some (-x)
 |none=>none
theorem zhk(x y:Option K):osz (zow x y)≤osz x+osz y+1:=by
 cases x<;>cases y<;>first|exact Nat.zero_le _|exact K.sz_add _ _
theorem zjI(x y:Option K):osz (zoA x y)≤osz x+osz y+1:=by
 cases x<;>cases y<;>first|exact Nat.zero_le _|exact K.sz_sub _ _
theorem zjl(x:Option K):osz (zoo x)=osz x:=by
 cases x
 · rfl
 · exact K.sz_neg _
end Go.Fw
open Go
namespace Go.Fw
set_option maxRecDepth 100000
theorem z30{x:RN}{k:K}{n:Nat}(h:toO x=some k)(hx:x.raw n=true):k.sz≤n:=zpc (z2h h).2 hx
noncomputable def z66(x y:RN):RN:=ofO (zow (toO x) (toO y))
noncomputable def zae(x y:RN):RN:=ofO (zoA (toO x) (toO y))
noncomputable def zgt(x:RN):RN:=ofO (zoo (toO x))
theorem zep(x:RN):toO (zgt x)=zoo (toO x):=z79 _
theorem zoV(x y:Option K):zow x (zoo y)=zoA x y:=by
 cases x<;>cases y<;>rfl
theorem zkt{x y z:RN}{k l m:K}(hx:toO x=some k)(hy:toO y=some l)(hz:toO z=some m):z4B x y z=z5X k l m:=by
 unfold z4B z5X
 rw[(z2h hx).2,(z2h hy).2,(z2h hz).2]
theorem zf4{x y z:RN}(h:toO x=none∨toO y=none∨toO z=none):ok3 x y z=false:=by
 unfold ok3
 rcases h with h|h|h<;>rw[z1i h]<;>simp
abbrev rnB(x y:RN):Bool:=x.b0==y.b0&&(x.s0==y.s0&&true)&&(x.b1==y.b1&&(x.s1==y.s1&&true)&&(x.b2==y.b2&&(x.s2==y.s2&&true)&&(x.b3==y.b3&&(x.s3==y.s3&&true)&&true)))&&(x.b4==y.b4&&(x.s4==y.s4&&true)&&true)
theorem zk5{x y:RN}:rnB x y=true↔x=y:=by
 cases x
 cases y
 simp only[rnB,zgq,Bool.and_eq_true,beq_iff_eq,and_true,RN.mk.injEq,decide_eq_true_eq]
 constructor
 · rintro⟨⟨h0,h1,h2,h3⟩,h4⟩
   exact⟨h0.1,h0.2,h1.1,h1.2,h2.1,h2.2,h3.1,h3.2,h4.1,h4.2⟩
 · rintro⟨a,b,c,d,e,f,g,h,i,j⟩
   exact⟨⟨⟨a,b⟩,⟨c,d⟩,⟨e,f⟩,⟨g,h⟩⟩,i,j⟩
end Go.Fw
open Go
namespace Go.Fw
set_option maxRecDepth 100000
theorem zj1{x y:RN}{n:Nat}(hx:x.raw n=true)(hy:y.raw n=true):(z66 x y).raw (n+n+1)=true:=by
 have h1:=z32 hx
 have h2:=z32 hy
 have h3:=zhk (toO x) (toO y)
 exact z2z (by omega)
theorem ziM{x:RN}{n:Nat}(hx:x.raw n=true):(zgt x).raw n=true:=z2z (by rw[zjl];exact z32 hx)
end Go.Fw
open Go
namespace Go.Fw
set_option maxRecDepth 100000
structure VN where
 x:RN
 y:RN
 z:RN
namespace VN
def c(v:VN):CV:=z4B v.x v.y v.z
def raw(n:Nat)(v:VN):Bool:=zob n v.x v.y v.z
def ok(v:VN):Bool:=ok3 v.x v.y v.z
def zero:VN:=⟨.zero,.zero,.zero⟩
theorem raw_mono{v:VN}{n m:Nat}(h:v.raw n=true)(hm:n≤m):v.raw m=true:=by
 obtain⟨hx,hy,hz⟩:=z0n.1 h
 exact z0n.2 ⟨RN.raw_mono hx hm,RN.raw_mono hy hm,RN.raw_mono hz hm⟩
end VN
structure V3 where
 x:K
 y:K
 z:K
def V3.c(v:V3):CV:=z5X v.x v.y v.z
def V3.sz(v:V3):Nat:=max v.x.sz (max v.y.sz v.z.sz)
noncomputable def toV(v:VN):Option V3:=match toO v.x,toO v.y,toO v.z with
 |some x,some y,some z=>some ⟨x,y,z⟩
 |_,_,_=>none
def ofV:Option V3→VN
 |none=> .zero
 |some v=>⟨.ofK v.x,.ofK v.y,.ofK v.z⟩
theorem zbk(o:Option V3):toV (ofV o)=o:=by
 cases o with
 |none=>unfold toV ofV VN.zero;simp only[z4R]
 |some v=>unfold toV ofV;simp only[z6P]
theorem z6K{v:VN}{k:V3}(h:toV v=some k):toO v.x=some k.x∧toO v.y=some k.y∧toO v.z=some k.z:=by
 unfold toV at h
 split at h
 · rename_i x y z h1 h2 h3
   injection h with h
   subst h
   exact⟨h1,h2,h3⟩
 · cases h
theorem z1W{v:VN}(h:toV v=none):v.ok=false:=by
 unfold toV at h
 split at h
 · cases h
 · rename_i hx
   refine zf4 ?_
   cases e1:toO v.x with
   |none=>exact .inl rfl
   |some a=>
    cases e2:toO v.y with
    |none=>exact .inr (.inl rfl)
    |some b=>
     cases e3:toO v.z with
     |none=>exact .inr (.inr rfl)
     |some c=>exact(hx a b c e1 e2 e3).elim
theorem z7O{v:VN}{k:V3}(h:toV v=some k):v.ok=true:=by
 obtain⟨h1,h2,h3⟩:=z6K h
 show ok3 v.x v.y v.z=true
 unfold ok3
 rw[(z2h h1).1,(z2h h2).1,(z2h h3).1];rfl
theorem z9j{v:VN}{k:V3}(h:toV v=some k):v.c=k.c:=by
 obtain⟨h1,h2,h3⟩:=z6K h
 exact zkt h1 h2 h3
theorem z0Q{v:VN}{k:V3}{n:Nat}(h:toV v=some k)(hr:v.raw n=true):k.x.sz≤n∧k.y.sz≤n∧k.z.sz≤n:=by
 obtain⟨h1,h2,h3⟩:=z6K h
 obtain⟨a,b,c⟩:=z0n.1 hr
 exact⟨z30 h1 a,z30 h2 b,z30 h3 c⟩
def vsz:Option V3→Nat
 |none=>0
 |some v=>v.sz
theorem z7b{o:Option V3}{n:Nat}(h:vsz o≤n):(ofV o).raw n=true:=by
 cases o with
 |none=>exact z0n.2 ⟨z2z (o:=none) (Nat.zero_le _),z2z (o:=none) (Nat.zero_le _),z2z (o:=none) (Nat.zero_le _)⟩
 |some v=>
  have h':max v.x.sz (max v.y.sz v.z.sz)≤n:=h
  exact z0n.2 ⟨RN.ofK_raw v.x (by omega),RN.ofK_raw v.y (by omega),RN.ofK_raw v.z (by omega)⟩
end Go.Fw
open Go IntKind
namespace Go.Fw
set_option maxRecDepth 100000
theorem zml(v:VN)(h1:(v.x.ok)=true)(h2:(v.y.ok)=true)(h3:(v.z.ok)=true)(s4_0:RN.raw 1000000 v.x=true)(s8_0:RN.raw 1000000 v.y=true)(s13_0:RN.raw 1000000 v.z=true):PCall P 99 [v.c] (.lit (.bool true)):=
 j5 (.r 4 ((z2Y (v.x) s4_0).eqB h1) (.r 8 ((z2Y (v.y) s8_0).eqB h2) (.r 13 ((z2Y (v.z) s13_0).eqB h3) .nil))) (by kernel_rfl)
theorem zko(v:VN)(h1:(v.x.ok)=true)(h2:(v.y.ok)=true)(h3:(v.z.ok)=false)(s4_0:RN.raw 1000000 v.x=true)(s8_0:RN.raw 1000000 v.y=true)(s13_0:RN.raw 1000000 v.z=true):PCall P 99 [v.c] (.lit (.bool false)):=
 j5 (.r 4 ((z2Y (v.x) s4_0).eqB h1) (.r 8 ((z2Y (v.y) s8_0).eqB h2) (.r 13 ((z2Y (v.z) s13_0).eqB h3) .nil))) (by kernel_rfl)
theorem zo2(v:VN)(h1:(v.x.ok)=true)(h2:(v.y.ok)=false)(s4_0:RN.raw 1000000 v.x=true)(s8_0:RN.raw 1000000 v.y=true):PCall P 99 [v.c] (.lit (.bool false)):=
 j5 (.r 4 ((z2Y (v.x) s4_0).eqB h1) (.r 8 ((z2Y (v.y) s8_0).eqB h2) .nil)) (by kernel_rfl)
theorem zmv(v:VN)(h1:(v.x.ok)=false)(s4_0:RN.raw 1000000 v.x=true):PCall P 99 [v.c] (.lit (.bool false)):=
 j5 (.r 4 ((z2Y (v.x) s4_0).eqB h1) .nil) (by kernel_rfl)
theorem zju(x y z:K)(s4_0:x.sz≤1000000)(s8_0:y.sz≤1000000)(s13_0:z.sz≤1000000):PCall P 99 [z5X x y z] (.lit (.bool true)):=
 j5 (.r 4 (z2b (x) s4_0) (.r 8 (z2b (y) s8_0) (.r 13 (z2b (z) s13_0) .nil))) (by kernel_rfl)
end Go.Fw
open Go
namespace Go.Fw
set_option maxRecDepth 100000
theorem zd0(v:VN)(h:v.raw 1000000=true):PCall P 99 [v.c] (.lit (.bool v.ok)):=by
 obtain⟨hx,hy,hz⟩:=z0n.1 h
 unfold VN.ok ok3
 cases ex:v.x.ok
 · exact zmv v ex hx
 · cases ey:v.y.ok
   · exact zo2 v ex ey hx hy
   · cases ez:v.z.ok
     · exact zko v ex ey ez hx hy hz
     · exact zml v ex ey ez hx hy hz
theorem zc9(x y z:K)(hx:x.sz≤1000000)(hy:y.sz≤1000000)(hz:z.sz≤1000000):PCall P 99 [z5X x y z] (.lit (.bool true)):=zju x y z hx hy hz
end Go.Fw
open Go IntKind
namespace Go.Fw
set_option maxRecDepth 100000
theorem zgI(v w:VN)(g:v.ok=false)(s4_0:VN.raw 1000000 v=true):PCall P 64 [v.c,w.c] z1t:=
 j5 (.r 4 ((zd0 (v) s4_0).eqB g) (.c (lq 30 30) .nil)) (by kernel_rfl)
theorem zhP(v w:VN)(g:v.ok=true)(g2:w.ok=false)(s4_0:VN.raw 1000000 v=true)(s8_0:VN.raw 1000000 w=true):PCall P 64 [v.c,w.c] z1t:=
 j5 (.r 4 ((zd0 (v) s4_0).eqB g) (.r 8 ((zd0 (w) s8_0).eqB g2) (.c (lq 30 30) .nil))) (by kernel_rfl)
theorem zgC(x y z x' y' z':K)(s4_0:x.sz≤1000000)(s4_1:y.sz≤1000000)(s4_2:z.sz≤1000000)(s8_0:x'.sz≤1000000)(s8_1:y'.sz≤1000000)(s8_2:z'.sz≤1000000)(s16_0:x.sz≤1000000)(s16_1:x'.sz≤1000000)(s21_0:y.sz≤1000000)(s21_1:y'.sz≤1000000)(s26_0:z.sz≤1000000)(s26_1:z'.sz≤1000000):PCall P 64 [z5X x y z,z5X x' y' z'] (z5X (x+x') (y+y') (z+z')):=
 j5 (.r 4 (zc9 (x) (y) (z) s4_0 s4_1 s4_2) (.r 8 (zc9 (x') (y') (z') s8_0 s8_1 s8_2) (.r 16 (zbZ (x) (x') s16_0 s16_1) (.r 21 (zbZ (y) (y') s21_0 s21_1) (.r 26 (zbZ (z) (z') s26_0 s26_1) (.c (lq 30 30) .nil)))))) (by kernel_rfl)
theorem zjW(v:VN)(k:RN)(g:v.ok=false)(s4_0:VN.raw 1000000 v=true):PCall P 65 [v.c,k.c] z1t:=
 j5 (.r 4 ((zd0 (v) s4_0).eqB g) (.c (lq 30 30) .nil)) (by kernel_rfl)
theorem ziv(v:VN)(k:RN)(g:v.ok=true)(g2:k.ok=false)(s4_0:VN.raw 1000000 v=true)(s8_0:RN.raw 1000000 k=true):PCall P 65 [v.c,k.c] z1t:=
 j5 (.r 4 ((zd0 (v) s4_0).eqB g) (.r 8 ((z2Y (k) s8_0).eqB g2) (.c (lq 30 30) .nil))) (by kernel_rfl)
theorem zjr(x y z k:K)(s4_0:x.sz≤1000000)(s4_1:y.sz≤1000000)(s4_2:z.sz≤1000000)(s8_0:k.sz≤1000000)(s15_0:x.sz≤1000000)(s15_1:k.sz≤1000000)(s19_0:y.sz≤1000000)(s19_1:k.sz≤1000000)(s23_0:z.sz≤1000000)(s23_1:k.sz≤1000000):PCall P 65 [z5X x y z,Z4 k] (z5X (x*k) (y*k) (z*k)):=
 j5 (.r 4 (zc9 (x) (y) (z) s4_0 s4_1 s4_2) (.r 8 (z2b (k) s8_0) (.r 15 (zby (x) (k) s15_0 s15_1) (.r 19 (zby (y) (k) s19_0 s19_1) (.r 23 (zby (z) (k) s23_0 s23_1) (.c (lq 30 30) .nil)))))) (by kernel_rfl)
theorem zhA(a b c:Int)(s2_0:(-9223372036854775808:Int)≤a∧a≤9223372036854775807)(s4_0:(-9223372036854775808:Int)≤b∧b≤9223372036854775807)(s6_0:(-9223372036854775808:Int)≤c∧c≤9223372036854775807):PCall P 63 [j6 a,j6 b,j6 c] (z5X (K.ofInt a) (K.ofInt b) (K.ofInt c)):=
 j5 (.r 2 (z3x (a) s2_0) (.r 4 (z3x (b) s4_0) (.r 6 (z3x (c) s6_0) (.c (lq 30 30) .nil)))) (by kernel_rfl)
end Go.Fw
open Go
namespace Go.Fw
set_option maxRecDepth 100000
namespace V3
def add(a b:V3):V3:=⟨a.x+b.x,a.y+b.y,a.z+b.z⟩
def sub(a b:V3):V3:=⟨a.x-b.x,a.y-b.y,a.z-b.z⟩
def neg(a:V3):V3:=⟨-a.x,-a.y,-a.z⟩
def scale(a:V3)(k:K):V3:=⟨a.x*k,a.y*k,a.z*k⟩
def dot(a b:V3):K:=a.x*b.x+a.y*b.y+a.z*b.z
def cross(a b:V3):V3:=⟨a.y*b.z-a.z*b.y,a.z*b.x-a.x*b.z,a.x*b.y-a.y*b.x⟩
end V3
def o2{α β γ:Type}(f:α→β→γ):Option α→Option β→Option γ
 |some a,some b=>some (f a b)
 |_,_=>none
noncomputable def z0h(v w:VN):VN:=ofV (o2 V3.add (toV v) (toV w))
noncomputable def J6(v:VN)(k:RN):VN:=ofV (o2 V3.scale (toV v) (toO k))
noncomputable def z4M(v w:VN):RN:=ofO (o2 V3.dot (toV v) (toV w))
noncomputable def z3K(v w:VN):VN:=ofV (o2 V3.cross (toV v) (toV w))
theorem zh8(v w:VN)(hv:v.raw 1000000=true)(hw:w.raw 1000000=true):PCall P 64 [v.c,w.c] (z0h v w).c:=by
 unfold z0h
 cases ev:toV v with
 |none=>exact zgI v w (z1W ev) hv
 |some a=>
  cases ew:toV w with
  |none=>exact zhP v w (z7O ev) (z1W ew) hv hw
  |some b=>
   obtain⟨x,y,z⟩:=z0Q ev hv
   obtain⟨x',y',z'⟩:=z0Q ew hw
   rw[z9j ev,z9j ew]
   exact zgC _ _ _ _ _ _ x y z x' y' z' x x' y y' z z'
theorem zbC(v:VN)(k:RN)(hv:v.raw 1000000=true)(hk:k.raw 1000000=true):PCall P 65 [v.c,k.c] (J6 v k).c:=by
 unfold J6
 cases ev:toV v with
 |none=>exact zjW v k (z1W ev) hv
 |some a=>
  cases ek:toO k with
  |none=>exact ziv v k (z7O ev) (z1i ek) hv hk
  |some b=>
   obtain⟨x,y,z⟩:=z0Q ev hv
   have hb:=z30 ek hk
   rw[z9j ev,zkc (z2h ek).2]
   exact zjr _ _ _ _ x y z hb x hb y hb z hb
end Go.Fw
open Go IntKind
namespace Go.Fw
set_option maxRecDepth 100000
theorem zjn(x y:RN)(g:x.ok=false)(s4_0:RN.raw 1000000 x=true):PCall P 137 [x.c,y.c] (.agg z2k):=
 j5 (.r 4 ((z4r (x) s4_0).eqB g) (.c (lq 10 10) .nil)) (by kernel_rfl)
theorem zjC(x y:RN)(g:x.ok=true)(g2:y.ok=false)(s4_0:RN.raw 1000000 x=true)(s8_0:RN.raw 1000000 y=true):PCall P 137 [x.c,y.c] (.agg z2k):=
 j5 (.r 4 ((z4r (x) s4_0).eqB g) (.r 8 ((z4r (y) s8_0).eqB g2) (.c (lq 10 10) .nil))) (by kernel_rfl)
theorem zi4(x:RN)(g:x.ok=false)(s3_0:RN.raw 1000000 x=true):PCall P 121 [x.c] (.agg z2k):=
 j5 (.r 3 ((z4r (x) s3_0).eqB g) (.c (lq 10 10) .nil)) (by kernel_rfl)
theorem zjt(x:RN)(g:x.ok=false)(s3_0:RN.raw 1000000 x=true):PCall P 146 [x.c] (.lit (.int .i64 0)):=
 j5 (.r 3 ((z4r (x) s3_0).eqB g) .nil) (by kernel_rfl)
theorem zhn(x y:RN)(g:x.ok=false)(s5_0:RN.raw 1000000 x=true):PCall P 147 [x.c,y.c] (.tup [.agg z2k,.lit (.int .i64 1)]):=
 j5 (.r 5 ((z4r (x) s5_0).eqB g) (.c (lq 10 10) .nil)) (by kernel_rfl)
theorem zhl(x y:RN)(g:x.ok=true)(g2:y.ok=false)(s5_0:RN.raw 1000000 x=true)(s9_0:RN.raw 1000000 y=true):PCall P 147 [x.c,y.c] (.tup [.agg z2k,.lit (.int .i64 1)]):=
 j5 (.r 5 ((z4r (x) s5_0).eqB g) (.r 9 ((z4r (y) s9_0).eqB g2) (.c (lq 10 10) .nil))) (by kernel_rfl)
end Go.Fw
open Go
namespace Go.Fw
set_option maxRecDepth 100000
theorem zbi(x y:RN)(hx:x.raw 1000000=true)(hy:y.raw 1000000=true):PCall P 137 [x.c,y.c] (z66 x y).c:=by
 unfold z66
 cases ex:toO x with
 |none=>exact zjn x y (z1i ex) hx
 |some k=>
  cases ey:toO y with
  |none=>exact zjC x y (z2h ex).1 (z1i ey) hx hy
  |some l=>
   have a:=z30 ex hx
   have b:=z30 ey hy
   rw[zkc (z2h ex).2,zkc (z2h ey).2]
   exact z6y k l (by omega)
theorem zmr(x:RN)(hx:x.raw 1000000=true):PCall P 121 [x.c] (zgt x).c:=by
 unfold zgt
 cases ex:toO x with
 |none=>exact zi4 x (z1i ex) hx
 |some k=>
  have a:=z30 ex hx
  rw[zkc (z2h ex).2]
  exact z9T k (by simp only[Smk];omega)
end Go.Fw
open Go IntKind
namespace Go.Fw
set_option maxRecDepth 100000
theorem znX(a b c:Int)(h1:(a==b)=true):PCall P 208 [j6 a,j6 b,j6 c] (.lit (.int .i64 a)):=
 j5 (.b 4 h1 .nil) (by kernel_rfl)
theorem znF(a b c:Int)(h1:(a==b)=false)(h2:(b==0)=true):PCall P 208 [j6 a,j6 b,j6 c] (.lit (.int .i64 a)):=
 j5 (.b 4 h1 (.b 9 h2 .nil)) (by kernel_rfl)
theorem zmB(a b c:Int)(h1:(a==b)=false)(h2:(b==0)=false)(h3:(a==0)=true):PCall P 208 [j6 a,j6 b,j6 c] (.lit (.int .i64 b)):=
 j5 (.b 4 h1 (.b 9 h2 (.b 13 h3 .nil))) (by kernel_rfl)
theorem zky(a b c:Int)(h1:(a==b)=false)(h2:(b==0)=false)(h3:(a==0)=false):PCall P 208 [j6 a,j6 b,j6 c] (.lit (.int .i64 (i64.wrap (a*c)))):=
 j5 (.b 4 h1 (.b 9 h2 (.b 13 h3 .nil))) (by kernel_rfl)
theorem znN(k a b:Int)(s4_0:(-9223372036854775808:Int)≤k∧k≤9223372036854775807)(s7_0:SmlZ a)(s7_1:SmlZ b)(s7_2:Sml (a.natAbs*b.natAbs))(s8_0:SmlZ k)(s8_1:SmlZ (a*b))(s8_2:Sml (k.natAbs*(a*b).natAbs)):PCall P 210 [j6 k,J7 a,J7 b] (.agg [.lit (.bool (decide (k*(a*b)<0))),.lit (.string (bytesOf (k*(a*b)).natAbs))]):=
 j5 (.r 4 (z16 (k) s4_0) (.r 7 (U9 (a) (b) s7_0 s7_1 s7_2) (.r 8 (U9 (k) (a*b) s8_0 s8_1 s8_2) (.c (lq 2 2) .nil)))) (by kernel_rfl)
end Go.Fw
open Go
namespace Go.Fw
set_option maxRecDepth 100000
def z69(a b c:Int):Int:=if a=b∨b=0 then a else if a=0 then b else a*c
theorem z2t(a b c:Int)(ha: -1≤a∧a≤1)(hc: -1≤c∧c≤1):PCall P 208 [j6 a,j6 b,j6 c] (j6 (z69 a b c)):=by
 unfold z69
 by_cases h1:a=b
 · rw[if_pos (.inl h1)]
   exact znX a b c (by simp[h1])
 · by_cases h2:b=0
   · rw[if_pos (.inr h2)]
     exact znF a b c (by simp[h1]) (by simp[h2])
   · rw[if_neg (by rintro(h|h)<;>contradiction)]
     by_cases h3:a=0
     · rw[if_pos h3]
       exact zmB a b c (by simp[h1]) (by simp[h2]) (by simp[h3])
     · rw[if_neg h3]
       have:=zky a b c (by simp[h1]) (by simp[h2]) (by simp[h3])
       have hw:IntKind.i64.wrap (a*c)=a*c:=by
        have:a= -1∨a=1:=by omega
        rcases this with h|h<;>rw[h]<;>exact w64 (by omega)
       rwa[hw]at this
theorem z94(k a b:Int){n m:Nat}(hk: -100≤k∧k≤100)(ha:By n a)(hb:By m b)(hn:n+m+1<1073741824):PCall P 210 [j6 k,J7 a,J7 b] (J7 (k*(a*b))):=by
 have hk':By 1 k:=by unfold By;omega
 have hab:=ha.mul hb
 exact znN k a b (by omega) (ha.sml (by omega)) (hb.sml (by omega)) (ha.sm2 hb (by omega)) (hk'.sml (by decide)) (hab.sml (by omega)) (hk'.sm2 hab (by omega))
end Go.Fw
open Go IntKind
namespace Go.Fw
set_option maxRecDepth 100000
theorem zmD(a b:Int)(s5_0:SmlZ a)(s5_1:SmlZ b)(s5_2:Sml (a.natAbs+b.natAbs)):PCall P 246 [J7 a,J7 b] (.lit (.int .i64 (a-b).sign)):=
 j5 (.r 5 (z9z (a) (b) s5_0 s5_1 s5_2) (.r 6 (z0I (a-b)) .nil)) (by kernel_rfl)
end Go.Fw
open Go
namespace Go.Fw
set_option maxRecDepth 100000
def Two(a b:Int):Prop:= ∃n,n≤500000000∧By n a∧By n b
theorem z1X(k a b:Int)(hk: -100≤k∧k≤100)(h:Two a b):PCall P 210 [j6 k,J7 a,J7 b] (J7 (k*(a*b))):=by
 obtain⟨n,hn,ha,hb⟩:=h
 exact z94 k a b hk ha hb (by omega)
theorem zdv(a b:Int)(h:Two a b):PCall P 246 [J7 a,J7 b] (j6 (a-b).sign):=by
 obtain⟨n,hn,ha,hb⟩:=h
 exact zmD a b (ha.sml (by omega)) (hb.sml (by omega)) (ha.sma hb (by omega))
theorem zm6(a b:Int)(h:Two a b):PCall P 203 [J7 a,J7 b] (J7 (a*b)):=by
 obtain⟨n,hn,ha,hb⟩:=h
 exact U9 a b (ha.sml (by omega)) (hb.sml (by omega)) (ha.sm2 hb (by omega))
theorem zgd(a b:Int)(h:Two a b):PCall P 202 [J7 a,J7 b] (J7 (a+b)):=by
 obtain⟨n,hn,ha,hb⟩:=h
 exact z21 a b (ha.sml (by omega)) (hb.sml (by omega)) (ha.sma hb (by omega))
theorem zg5(a b:Int)(h:Two a b):PCall P 209 [J7 a,J7 b] (J7 (a-b)):=by
 obtain⟨n,hn,ha,hb⟩:=h
 exact z9z a b (ha.sml (by omega)) (hb.sml (by omega)) (ha.sma hb (by omega))
end Go.Fw
open Go IntKind
namespace Go.Fw
set_option maxRecDepth 100000
theorem zoa(a b:Int)(s9_0:Two a a)(s12_0:(-100:Int)≤2∧(2:Int)≤100)(s12_1:Two b b)(s13_0:Two (a*a) ((2:Int)*(b*b)))(s14_0:(-1:Int)≤a.sign∧a.sign≤1)(s14_1:(-1:Int)≤(a*a-2*(b*b)).sign∧(a*a-2*(b*b)).sign≤1):PCall P 207 [J7 a,J7 b] (.lit (.int .i64 (z69 a.sign b.sign (a*a-2*(b*b)).sign))):=
 j5 (.r 4 (z0I (a)) (.r 6 (z0I (b)) (.r 9 (zm6 (a) (a) s9_0) (.r 12 (z1X ((2:Int)) (b) (b) s12_0 s12_1) (.r 13 (zdv (a*a) ((2:Int)*(b*b)) s13_0) (.r 14 (z2t (a.sign) (b.sign) ((a*a-2*(b*b)).sign) s14_0 s14_1) .nil)))))) (by kernel_rfl)
end Go.Fw
open Go
namespace Go.Fw
set_option maxRecDepth 100000
def sg2(a b:Int):Int:=z69 a.sign b.sign (a*a-2*(b*b)).sign
theorem z5y(a:Int): -1≤a.sign∧a.sign≤1:=by
 rcases Int.lt_trichotomy a 0 with h|h|h
 · rw[Int.sign_eq_neg_one_of_neg h];decide
 · rw[h];decide
 · rw[Int.sign_eq_one_of_pos h];decide
theorem zjf{a b c:Int}(ha: -1≤a∧a≤1)(hb: -1≤b∧b≤1)(hc: -1≤c∧c≤1): -1≤z69 a b c∧z69 a b c≤1:=by
 unfold z69
 split
 · exact ha
 · split
   · exact hb
   · have:a= -1∨a=0∨a=1:=by omega
     rcases this with h|h|h<;>rw[h]<;>omega
theorem zgs(a b:Int): -1≤sg2 a b∧sg2 a b≤1:=zjf (z5y a) (z5y b) (z5y _)
def zbe(a b:Int):Prop:= ∃n,n≤100000000∧By n a∧By n b
theorem By.two{a:Int}{n:Nat}(h:By n a):By (n+1) (2*a):=by
 have:By 1 2:=by unfold By;decide
 have:=this.mul h
 rwa[Nat.add_comm]at this
theorem z0S(a b:Int)(h:zbe a b):PCall P 207 [J7 a,J7 b] (j6 (sg2 a b)):=by
 obtain⟨n,hn,ha,hb⟩:=h
 exact zoa a b ⟨n,by omega,ha,ha⟩ (by decide) ⟨n,by omega,hb,hb⟩ ⟨n+n+1,by omega,(ha.mul ha).mono (by omega),(hb.mul hb).two⟩ (z5y _) (z5y _)
end Go.Fw
open Go IntKind
namespace Go.Fw
set_option maxRecDepth 100000
theorem zls(x:K)(h1:(sg2 x.c0 x.c1==sg2 x.c2 x.c3)=true)(s3_0:Smk x)(s28_0:zbe x.c0 x.c1)(s31_0:zbe x.c2 x.c3)(s48_0:(-1:Int)≤sg2 x.c0 x.c1∧sg2 x.c0 x.c1≤1)(s48_1:(-1:Int)≤0∧(0:Int)≤1):PCall P 146 [Z4 x] (.lit (.int .i64 (z69 (sg2 x.c0 x.c1) (sg2 x.c2 x.c3) (0:Int)))):=
 j5 (.r 3 (z0e (x) s3_0) (.c (bq 0 4) (.c (bq 1 4) (.c (bq 2 4) (.c (bq 3 4) (.c (lq 2 2) (.c (lq 2 2) (.c (lq 2 2) (.c (lq 2 2) (.r 28 (z0S (x.c0) (x.c1) s28_0) (.r 31 (z0S (x.c2) (x.c3) s31_0) (.b 37 h1 (.r 48 (z2t (sg2 x.c0 x.c1) (sg2 x.c2 x.c3) ((0:Int)) s48_0 s48_1) .nil))))))))))))) (by kernel_rfl)
theorem zn3(x:K)(h1:(sg2 x.c0 x.c1==sg2 x.c2 x.c3)=false)(h2:(sg2 x.c2 x.c3==0)=true)(s3_0:Smk x)(s28_0:zbe x.c0 x.c1)(s31_0:zbe x.c2 x.c3)(s48_0:(-1:Int)≤sg2 x.c0 x.c1∧sg2 x.c0 x.c1≤1)(s48_1:(-1:Int)≤0∧(0:Int)≤1):PCall P 146 [Z4 x] (.lit (.int .i64 (z69 (sg2 x.c0 x.c1) (sg2 x.c2 x.c3) (0:Int)))):=
 j5 (.r 3 (z0e (x) s3_0) (.c (bq 0 4) (.c (bq 1 4) (.c (bq 2 4) (.c (bq 3 4) (.c (lq 2 2) (.c (lq 2 2) (.c (lq 2 2) (.c (lq 2 2) (.r 28 (z0S (x.c0) (x.c1) s28_0) (.r 31 (z0S (x.c2) (x.c3) s31_0) (.b 37 h1 (.b 41 h2 (.r 48 (z2t (sg2 x.c0 x.c1) (sg2 x.c2 x.c3) ((0:Int)) s48_0 s48_1) .nil)))))))))))))) (by kernel_rfl)
theorem zkF(x:K)(h1:(sg2 x.c0 x.c1==sg2 x.c2 x.c3)=false)(h2:(sg2 x.c2 x.c3==0)=false)(h3:(sg2 x.c0 x.c1==0)=true)(s3_0:Smk x)(s28_0:zbe x.c0 x.c1)(s31_0:zbe x.c2 x.c3)(s48_0:(-1:Int)≤sg2 x.c0 x.c1∧sg2 x.c0 x.c1≤1)(s48_1:(-1:Int)≤0∧(0:Int)≤1):PCall P 146 [Z4 x] (.lit (.int .i64 (z69 (sg2 x.c0 x.c1) (sg2 x.c2 x.c3) (0:Int)))):=
 j5 (.r 3 (z0e (x) s3_0) (.c (bq 0 4) (.c (bq 1 4) (.c (bq 2 4) (.c (bq 3 4) (.c (lq 2 2) (.c (lq 2 2) (.c (lq 2 2) (.c (lq 2 2) (.r 28 (z0S (x.c0) (x.c1) s28_0) (.r 31 (z0S (x.c2) (x.c3) s31_0) (.b 37 h1 (.b 41 h2 (.b 45 h3 (.r 48 (z2t (sg2 x.c0 x.c1) (sg2 x.c2 x.c3) ((0:Int)) s48_0 s48_1) .nil))))))))))))))) (by kernel_rfl)
theorem zlg(x:K)(h1:(sg2 x.c0 x.c1==sg2 x.c2 x.c3)=false)(h2:(sg2 x.c2 x.c3==0)=false)(h3:(sg2 x.c0 x.c1==0)=false)(s3_0:Smk x)(s28_0:zbe x.c0 x.c1)(s31_0:zbe x.c2 x.c3)(s48_0:(-100:Int)≤1∧(1:Int)≤100)(s48_1:Two x.c0 x.c0)(s51_0:(-100:Int)≤2∧(2:Int)≤100)(s51_1:Two x.c1 x.c1)(s52_0:Two ((1:Int)*(x.c0*x.c0)) ((2:Int)*(x.c1*x.c1)))(s55_0:(-100:Int)≤3∧(3:Int)≤100)(s55_1:Two x.c2 x.c2)(s58_0:(-100:Int)≤6∧(6:Int)≤100)(s58_1:Two x.c3 x.c3)(s59_0:Two ((3:Int)*(x.c2*x.c2)) ((6:Int)*(x.c3*x.c3)))(s60_0:Two ((1:Int)*(x.c0*x.c0)+2*(x.c1*x.c1)) ((3:Int)*(x.c2*x.c2)+6*(x.c3*x.c3)))(s65_0:(-100:Int)≤2∧(2:Int)≤100)(s65_1:Two x.c0 x.c1)(s68_0:(-100:Int)≤6∧(6:Int)≤100)(s68_1:Two x.c2 x.c3)(s69_0:Two ((2:Int)*(x.c0*x.c1)) ((6:Int)*(x.c2*x.c3)))(s76_0:zbe ((1:Int)*(x.c0*x.c0)+2*(x.c1*x.c1)-((3:Int)*(x.c2*x.c2)+6*(x.c3*x.c3))) ((2:Int)*(x.c0*x.c1)-6*(x.c2*x.c3)))(s77_0:(-1:Int)≤sg2 x.c0 x.c1∧sg2 x.c0 x.c1≤1)(s77_1:(-1:Int)≤sg2 ((1:Int)*(x.c0*x.c0)+2*(x.c1*x.c1)-((3:Int)*(x.c2*x.c2)+6*(x.c3*x.c3))) ((2:Int)*(x.c0*x.c1)-6*(x.c2*x.c3))∧sg2 ((1:Int)*(x.c0*x.c0)+2*(x.c1*x.c1)-((3:Int)*(x.c2*x.c2)+6*(x.c3*x.c3))) ((2:Int)*(x.c0*x.c1)-6*(x.c2*x.c3))≤1):PCall P 146 [Z4 x] (.lit (.int .i64 (z69 (sg2 x.c0 x.c1) (sg2 x.c2 x.c3) (sg2 ((1:Int)*(x.c0*x.c0)+2*(x.c1*x.c1)-((3:Int)*(x.c2*x.c2)+6*(x.c3*x.c3))) ((2:Int)*(x.c0*x.c1)-6*(x.c2*x.c3)))))):=
 j5 (.r 3 (z0e (x) s3_0) (.c (bq 0 4) (.c (bq 1 4) (.c (bq 2 4) (.c (bq 3 4) (.c (lq 2 2) (.c (lq 2 2) (.c (lq 2 2) (.c (lq 2 2) (.r 28 (z0S (x.c0) (x.c1) s28_0) (.r 31 (z0S (x.c2) (x.c3) s31_0) (.b 37 h1 (.b 41 h2 (.b 45 h3 (.r 48 (z1X ((1:Int)) (x.c0) (x.c0) s48_0 s48_1) (.r 51 (z1X ((2:Int)) (x.c1) (x.c1) s51_0 s51_1) (.r 52 (zgd ((1:Int)*(x.c0*x.c0)) ((2:Int)*(x.c1*x.c1)) s52_0) (.r 55 (z1X ((3:Int)) (x.c2) (x.c2) s55_0 s55_1) (.r 58 (z1X ((6:Int)) (x.c3) (x.c3) s58_0 s58_1) (.r 59 (zgd ((3:Int)*(x.c2*x.c2)) ((6:Int)*(x.c3*x.c3)) s59_0) (.r 60 (zg5 ((1:Int)*(x.c0*x.c0)+2*(x.c1*x.c1)) ((3:Int)*(x.c2*x.c2)+6*(x.c3*x.c3)) s60_0) (.c (lq 2 2) (.r 65 (z1X ((2:Int)) (x.c0) (x.c1) s65_0 s65_1) (.r 68 (z1X ((6:Int)) (x.c2) (x.c3) s68_0 s68_1) (.r 69 (zg5 ((2:Int)*(x.c0*x.c1)) ((6:Int)*(x.c2*x.c3)) s69_0) (.c (lq 2 2) (.r 76 (z0S ((1:Int)*(x.c0*x.c0)+2*(x.c1*x.c1)-((3:Int)*(x.c2*x.c2)+6*(x.c3*x.c3))) ((2:Int)*(x.c0*x.c1)-6*(x.c2*x.c3)) s76_0) (.r 77 (z2t (sg2 x.c0 x.c1) (sg2 x.c2 x.c3) (sg2 ((1:Int)*(x.c0*x.c0)+2*(x.c1*x.c1)-((3:Int)*(x.c2*x.c2)+6*(x.c3*x.c3))) ((2:Int)*(x.c0*x.c1)-6*(x.c2*x.c3))) s77_0 s77_1) .nil)))))))))))))))))))))))))))) (by kernel_rfl)
end Go.Fw
