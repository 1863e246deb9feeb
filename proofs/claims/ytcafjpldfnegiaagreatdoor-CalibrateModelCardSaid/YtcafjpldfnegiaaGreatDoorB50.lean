/- A part of the proof that the law returns true for every input: an executor for the model's code, and what functions of the program compute. -/
import Derived.Test.YtcafjpldfnegiaaGreatDoorB11
import Derived.Test.YtcafjpldfnegiaaGreatDoorB15
import Derived.Test.YtcafjpldfnegiaaGreatDoorB43
import Derived.Test.YtcafjpldfnegiaaGreatDoorB45
import Derived.Test.YtcafjpldfnegiaaGreatDoorB46
import Derived.Test.YtcafjpldfnegiaaGreatDoorB49
import Derived.KernelRfl
open Go IntKind
namespace Go.Fw
set_option maxRecDepth 100000
theorem zrn(x:RN)(h1:decide ((↑x.s0.size:Int)>8)=true):PCall P 74 [x.c,j5 8] (.lit (.bool false)):=
 j3 (.c (bq 0 4) (.b 15 h1 .nil)) (by kernel_rfl)
theorem zpj(x:RN)(h1:decide ((↑x.s0.size:Int)>8)=false)(h2:decide ((↑x.s1.size:Int)>8)=true):PCall P 74 [x.c,j5 8] (.lit (.bool false)):=
 j3 (.c (bq 0 4) (.b 15 h1 (.c (bq 1 4) (.b 31 h2 .nil)))) (by kernel_rfl)
theorem zrL(x:RN)(h1:decide ((↑x.s0.size:Int)>8)=false)(h2:decide ((↑x.s1.size:Int)>8)=false)(h3:decide ((↑x.s2.size:Int)>8)=true):PCall P 74 [x.c,j5 8] (.lit (.bool false)):=
 j3 (.c (bq 0 4) (.b 15 h1 (.c (bq 1 4) (.b 31 h2 (.c (bq 2 4) (.b 47 h3 .nil)))))) (by kernel_rfl)
theorem zrX(x:RN)(h1:decide ((↑x.s0.size:Int)>8)=false)(h2:decide ((↑x.s1.size:Int)>8)=false)(h3:decide ((↑x.s2.size:Int)>8)=false)(h4:decide ((↑x.s3.size:Int)>8)=true):PCall P 74 [x.c,j5 8] (.lit (.bool false)):=
 j3 (.c (bq 0 4) (.b 15 h1 (.c (bq 1 4) (.b 31 h2 (.c (bq 2 4) (.b 47 h3 (.c (bq 3 4) (.b 63 h4 .nil)))))))) (by kernel_rfl)
theorem znE(x:RN)(h1:decide ((↑x.s0.size:Int)>8)=false)(h2:decide ((↑x.s1.size:Int)>8)=false)(h3:decide ((↑x.s2.size:Int)>8)=false)(h4:decide ((↑x.s3.size:Int)>8)=false):PCall P 74 [x.c,j5 8] (.lit (.bool (decide ((↑x.s4.size:Int)≤8)))):=
 j3 (.c (bq 0 4) (.b 15 h1 (.c (bq 1 4) (.b 31 h2 (.c (bq 2 4) (.b 47 h3 (.c (bq 3 4) (.b 63 h4 .nil)))))))) (by kernel_rfl)
theorem zpt(m:VN)(i:Int)(h1:((X4 m i).2 != 0)=true)(a:VN.raw 10000 m=true):PCall P 115 [m.c,j5 i] (.tup [.agg [.lit (.bool false),.lit (.string {data:= #[]})],.lit (.int .i64 (X4 m i).2)]):=
 j3 (.r 5 (zaG m i a) (.c (lq 10 10) (.b 14 h1 (.c (lq 2 2) .nil)))) (by kernel_rfl)
theorem zph(m:VN)(i:Int)(h1:((X4 m i).2 != 0)=false)(a:VN.raw 10000 m=true)(d:RN.raw 1000000 halfN=true)(e:RN.raw 1000000 (X4 m i).fst=true)(f: ∃k,z2E halfN (X4 m i).fst=kN k∧k.sz≤10000):PCall P 115 [m.c,j5 i] (.tup [(J2 (flN (z2E halfN (X4 m i).fst))),.lit (.int .i64 0)]):=
 j3 (.r 5 (zaG m i a) (.c (lq 10 10) (.b 14 h1 (.r 15 zsM (.c (lq 10 10) (.r 24 (zaB halfN ((X4 m i).fst) d e) (.r 25 (zhx (z2E halfN (X4 m i).fst) f) (.c (lq 2 2) .nil)))))))) (by kernel_rfl)
theorem zqf(m:VN)(i:Int)(h1:((X4 m i).2 != 0)=true)(a:VN.raw 10000 m=true):PCall P 116 [m.c,j5 i] (.tup [.agg [.lit (.bool false),.lit (.string {data:= #[]})],.lit (.int .i64 (X4 m i).2)]):=
 j3 (.r 5 (z4x m i a) (.c (lq 10 10) (.b 14 h1 (.c (lq 2 2) .nil)))) (by kernel_rfl)
theorem zor(m:VN)(i:Int)(h1:((X4 m i).2 != 0)=false)(a:VN.raw 10000 m=true)(d:RN.raw 1000000 halfN=true)(e:RN.raw 1000000 (X4 m i).fst=true)(f: ∃k,z2E halfN (X4 m i).fst=kN k∧k.sz≤10000):PCall P 116 [m.c,j5 i] (.tup [(J2 (flN (z2E halfN (X4 m i).fst))),.lit (.int .i64 0)]):=
 j3 (.r 5 (z4x m i a) (.c (lq 10 10) (.b 14 h1 (.r 15 zto (.c (lq 10 10) (.r 24 (zef halfN ((X4 m i).fst) d e) (.r 25 (zhD (z2E halfN (X4 m i).fst) f) (.c (lq 2 2) .nil)))))))) (by kernel_rfl)
noncomputable def z6U(m:VN)(i:Int):Int×Int:=if(X4 m i).2=0 then(flN (z2E halfN (X4 m i).1),0)else(0,(X4 m i).2)
theorem z7L:halfN.raw 1=true:=z3q zj6
theorem zrD{m:VN}{i:Int}(hm:m.raw 1000=true)(h:(X4 m i).2=0): ∃k:K,z2E halfN (X4 m i).1=kN k∧k.sz≤10000:=by
 unfold X4 at h ⊢
 cases ok:m.ok
 · rw[ok]at h;exact absurd h (show ¬(1:Int)=0 by decide)
 rw[if_pos rfl]
 obtain⟨a,b,c,rfl⟩:=zt8 ok
 have e:z3y (kV a b c) (X7 i)=kN (a*(z6E i).x+b*(z6E i).y+c*(z6E i).z):=by rw[z9h];exact zeS _ _ _ _ _ _
 have hr:=zah z7L (z6n hm (VN.raw_mono (z2V i) (show 1≤1000 by decide)))
 dsimp only at hr ⊢
 rw[e]at hr ⊢
 unfold halfN at hr ⊢
 rw[zi3]at hr ⊢
 exact⟨_,rfl,Nat.le_trans (z11 (z20 _) hr) (by decide)⟩
theorem zb2{m:VN}{i:Int}{n:Nat}(h1:1≤n)(hm:m.raw n=true)(hn:6*n+5≤1000000):(X4 m i).1.raw 1000000=true:=by
 unfold X4
 split
 · exact RN.raw_mono (z6n hm (VN.raw_mono (z2V i) h1)) hn
 · exact RN.raw_mono (n:=0) rfl (by decide)
theorem zqa(m:VN)(i:Int)(hm:m.raw 1000=true):PCall P 115 [m.c,j5 i] (.tup [J2 (z6U m i).1,j5 (z6U m i).2]):=by
 have h1:=VN.raw_mono hm (show 1000≤10000 by decide)
 unfold z6U
 by_cases h:(X4 m i).2=0
 · rw[if_pos h]
   exact zph m i (by rw[h];rfl) h1 (RN.raw_mono z7L (by decide)) (zb2 (by decide) hm (by decide)) (zrD hm h)
 · rw[if_neg h]
   exact zpt m i (bne_iff_ne.2 h) h1
theorem zi1(m:VN)(i:Int)(hm:m.raw 1000=true):PCall P 116 [m.c,j5 i] (.tup [J2 (z6U m i).1,j5 (z6U m i).2]):=by
 have h1:=VN.raw_mono hm (show 1000≤10000 by decide)
 unfold z6U
 by_cases h:(X4 m i).2=0
 · rw[if_pos h]
   exact zor m i (by rw[h];rfl) h1 (RN.raw_mono z7L (by decide)) (zb2 (by decide) hm (by decide)) (zrD hm h)
 · rw[if_neg h]
   exact zqf m i (bne_iff_ne.2 h) h1
theorem z7P(x:RN):PCall P 74 [x.c,j5 8] (.lit (.bool (x.raw 8))):=by
 have big: ∀{n:Nat},¬n≤8→decide ((n:Int)>8)=true:=fun h=>decide_eq_true (by omega)
 have sml: ∀{n:Nat},n≤8→decide ((n:Int)>8)=false:=fun h=>decide_eq_false (by omega)
 unfold RN.raw
 by_cases h0:x.s0.size≤8
 · by_cases h1:x.s1.size≤8
   · by_cases h2:x.s2.size≤8
     · by_cases h3:x.s3.size≤8
       · refine(znE x (sml h0) (sml h1) (sml h2) (sml h3)).eqB ?_
         rw[decide_eq_true h0,decide_eq_true h1,decide_eq_true h2,decide_eq_true h3,Bool.true_and,Bool.true_and,Bool.true_and,Bool.true_and,decide_eq_decide]
         omega
       · refine(zrX x (sml h0) (sml h1) (sml h2) (big h3)).eqB ?_
         simp[h3]
     · refine(zrL x (sml h0) (sml h1) (big h2)).eqB ?_
       simp[h2]
   · refine(zpj x (sml h0) (big h1)).eqB ?_
     simp[h1]
 · refine(zrn x (big h0)).eqB ?_
   simp[h0]
theorem znH(v:VN)(h1:(RN.raw 8 v.x)=true)(h2:(RN.raw 8 v.y)=true)(h3:(RN.raw 8 v.z)=true):PCall P 90 [v.c,j5 8] (.lit (.bool true)):=
 j3 (.r 5 ((z7P v.x).eqB h1) (.r 10 ((z7P v.y).eqB h2) (.r 16 ((z7P v.z).eqB h3) .nil))) (by kernel_rfl)
theorem zq2(v:VN)(h1:(RN.raw 8 v.x)=true)(h2:(RN.raw 8 v.y)=true)(h3:(RN.raw 8 v.z)=false):PCall P 90 [v.c,j5 8] (.lit (.bool false)):=
 j3 (.r 5 ((z7P v.x).eqB h1) (.r 10 ((z7P v.y).eqB h2) (.r 16 ((z7P v.z).eqB h3) .nil))) (by kernel_rfl)
theorem zrq(v:VN)(h1:(RN.raw 8 v.x)=true)(h2:(RN.raw 8 v.y)=false):PCall P 90 [v.c,j5 8] (.lit (.bool false)):=
 j3 (.r 5 ((z7P v.x).eqB h1) (.r 10 ((z7P v.y).eqB h2) .nil)) (by kernel_rfl)
theorem znj(v:VN)(h1:(RN.raw 8 v.x)=false):PCall P 90 [v.c,j5 8] (.lit (.bool false)):=
 j3 (.r 5 ((z7P v.x).eqB h1) .nil) (by kernel_rfl)
theorem zj9(v:VN):PCall P 90 [v.c,j5 8] (.lit (.bool (v.raw 8))):=by
 unfold VN.raw zp2
 cases h1:v.x.raw 8
 · exact znj v h1
 · cases h2:v.y.raw 8
   · exact zrq v h1 h2
   · cases h3:v.z.raw 8
     · exact zq2 v h1 h2 h3
     · exact znH v h1 h2 h3
theorem zqP(l:List (Int×Int))(m:VN)(i:Int)(g:decide ((↑l.length:Int)>12)=true):PCall P 24 [rdV l,m.c,j5 i] (.lit (.bool true)):=
 j3 (.r 2 z4F (.b 9 g (.r 15 z4F .nil))) (by kernel_rfl)
theorem zs4(l:List (Int×Int))(m:VN)(i:Int)(g:decide ((↑l.length:Int)>12)=false)(g2:VN.raw 8 m=false):PCall P 24 [rdV l,m.c,j5 i] (.lit (.bool true)):=
 j3 (.r 2 z4F (.b 9 g (.r 11 ((zj9 m).eqB g2) (.r 15 z4F .nil)))) (by kernel_rfl)
theorem zp4(l:List (Int×Int))(m:VN)(i:Int)(g:decide ((↑l.length:Int)>12)=false)(g2:VN.raw 8 m=true)(_q0:(z3t l==z3t l)=true)(q1:rnB (X4 m i).fst (X4 m i).fst=true)(q2:((X4 m i).snd==(X4 m i).snd)=true)(q3:((z1W l m).snd==(z1W l m).snd)=true)(q4:rnB (zaI l m).fst (zaI l m).fst=true)(q5:((zaI l m).snd==(zaI l m).snd)=true)(q6:(decide ((z6U m i).fst<0)==decide ((z6U m i).fst<0)&&(bytesOf (z6U m i).fst.natAbs==bytesOf (z6U m i).fst.natAbs&&true))=true)(h1:(z3t l)=true)(a d:VN.raw 10000 m=true)(e f:l.length<2^30)(j:VN.raw 10000 m=true)(k:l.length<2^30)(n:VN.raw 10000 m=true)(p:l.length<2^30)(q:l.length≤12)(s:VN.raw 8000 m=true)(t:l.length≤12)(u:VN.raw 8000 m=true)(v w:VN.raw 1000 m=true)(x y z:l.length<2^30)(a0:(z1W l m).1.length<2^30):PCall P 24 [rdV l,m.c,j5 i] (.lit (.bool ((z6U m i).2==(z6U m i).2))):=
 j3 (.r 2 z4F (.c g (.o 9 (.b false) (.r 11 ((zj9 m).eqB g2) (.r 17 (zaG m i a) (.c (lq 10 10) (.r 26 (z4x m i d) (.c (lq 10 10) (.r 34 (zbw l e) (.r 36 (zaC l m f j) (.r 44 (z7c l m k n) (.r 51 (zbw l p) (.r 53 (zak l m q s) (.c (lq 10 10) (.r 62 (z8z l m t u) (.c (lq 10 10) (.r 71 (zqa m i v) (.c (lq 2 2) (.r 80 (zi1 m i w) (.c (lq 2 2) (.r 88 (zbw l x) (.r 89 ((z3v l y).eqB h1) (.r 91 ((z3S l z).eqB h1) (.c q1 (.c q2 (.o 98 (.b true) (.o 103 (.b true) (.r 106 (z6Z ((z1W l m).1) a0) (.c q3 (.c q4 (.c q5 (.c q6 (.o 113 (.b true) (.o 118 (.b true) (.o 123 (.b true) (.o 128 (.b true) .nil)))))))))))))))))))))))))))))))))))) (by kernel_rfl)
theorem znF(l:List (Int×Int))(m:VN)(i:Int)(g:decide ((↑l.length:Int)>12)=false)(g2:VN.raw 8 m=true)(_q0:(z3t l==z3t l)=true)(q1:rnB (X4 m i).fst (X4 m i).fst=true)(q2:((X4 m i).snd==(X4 m i).snd)=true)(q3:((z1W l m).snd==(z1W l m).snd)=true)(q4:rnB (zaI l m).fst (zaI l m).fst=true)(q5:((zaI l m).snd==(zaI l m).snd)=true)(q6:(decide ((z6U m i).fst<0)==decide ((z6U m i).fst<0)&&(bytesOf (z6U m i).fst.natAbs==bytesOf (z6U m i).fst.natAbs&&true))=true)(h1:(z3t l)=false)(a d:VN.raw 10000 m=true)(e f:l.length<2^30)(j:VN.raw 10000 m=true)(k:l.length<2^30)(n:VN.raw 10000 m=true)(p:l.length<2^30)(q:l.length≤12)(s:VN.raw 8000 m=true)(t:l.length≤12)(u:VN.raw 8000 m=true)(v w:VN.raw 1000 m=true)(x y z:l.length<2^30)(a0:(z1W l m).1.length<2^30):PCall P 24 [rdV l,m.c,j5 i] (.lit (.bool ((z6U m i).2==(z6U m i).2))):=
 j3 (.r 2 z4F (.c g (.o 9 (.b false) (.r 11 ((zj9 m).eqB g2) (.r 17 (zaG m i a) (.c (lq 10 10) (.r 26 (z4x m i d) (.c (lq 10 10) (.r 34 (zbw l e) (.r 36 (zaC l m f j) (.r 44 (z7c l m k n) (.r 51 (zbw l p) (.r 53 (zak l m q s) (.c (lq 10 10) (.r 62 (z8z l m t u) (.c (lq 10 10) (.r 71 (zqa m i v) (.c (lq 2 2) (.r 80 (zi1 m i w) (.c (lq 2 2) (.r 88 (zbw l x) (.r 89 ((z3v l y).eqB h1) (.r 91 ((z3S l z).eqB h1) (.c q1 (.c q2 (.o 98 (.b true) (.o 103 (.b true) (.r 106 (z6Z ((z1W l m).1) a0) (.c q3 (.c q4 (.c q5 (.c q6 (.o 113 (.b true) (.o 118 (.b true) (.o 123 (.b true) (.o 128 (.b true) .nil)))))))))))))))))))))))))))))))))))) (by kernel_rfl)
theorem zjW(l:List (Int×Int))(m:VN)(i:Int):PCall P 24 [rdV l,m.c,j5 i] (.lit (.bool true)):=by
 cases g:decide ((l.length:Int)>12)
 case true=>exact zqP l m i g
 cases g2:m.raw 8
 case false=>exact zs4 l m i g g2
 have hl:l.length≤12:=by have:=of_decide_eq_false g;omega
 have s:l.length<2^30:=by omega
 have r1:=VN.raw_mono g2 (show 8≤10000 by decide)
 have r2:=VN.raw_mono g2 (show 8≤8000 by decide)
 have r3:=VN.raw_mono g2 (show 8≤1000 by decide)
 have q6:=(zir (z6U m i).1 (z6U m i).1).trans (decide_eq_true rfl)
 have sr:(z1W l m).1.length<2^30:=Nat.lt_of_le_of_lt (z7T l m) s
 cases h:z3t l
 · exact(znF l m i g g2 (by rw[beq_self_eq_true]) (z1I _) (by rw[beq_self_eq_true]) (by rw[beq_self_eq_true]) (z1I _) (by rw[beq_self_eq_true]) q6 h r1 r1 s s r1 s r1 s hl r2 hl r2 r3 r3 s s s sr).eqB (by rw[beq_self_eq_true])
 · exact(zp4 l m i g g2 (by rw[beq_self_eq_true]) (z1I _) (by rw[beq_self_eq_true]) (by rw[beq_self_eq_true]) (z1I _) (by rw[beq_self_eq_true]) q6 h r1 r1 s s r1 s r1 s hl r2 hl r2 r3 r3 s s s sr).eqB (by rw[beq_self_eq_true])
theorem zc5(l:List (Int×Int))(x y z:RN)(i:Int):PCall P 24 [rdV l,z5f x y z,j5 i] (.lit (.bool true)):=zjW l ⟨x,y,z⟩ i
open Go.Proofs Go.Proofs.YtcafjpldfnegiaaGreatDoor
open Go.ChangeShapes Go.WideShapes Go.ChangeAt Go.RowKit
theorem zeF {H : Type} {enc : TypeId × Value → H} (W : World) (base : Nat) (args : Array Value) (ds gs : List (DataW H)) (before : List MemPlace)
    (hval: ∀(j:Nat) t v,Tryz.f24.params[j]?=some t→args[j]?=some v→Value.okWide Tryz.prog W .any base t v)
    (hW:DataW.Whole enc Tryz.prog Tryz.f24.params.toList Rows.calibrateModelSpec.vars false W args.toList ds gs before):
    Calls Tryz.prog 24 args W fun e W'=>e= .returned (.bool true)∧Below W.heap.size W W':=by
 obtain⟨p,q,hA,hV,_,_,_⟩:=hW
 rw[Tryz.params24]at hA hval
 obtain⟨v0,vs0,d0,ds0,p0,q0,ha0,hd0,_,h0,r0⟩:=trodAll_cons hA
 obtain⟨v1,vs1,d1,ds1,p1,q1,ha1,hd1,_,h1,r1⟩:=trodAll_cons r0
 obtain⟨v2,vs2,d2,ds2,p2,q2,ha2,hd2,_,h2,r2⟩:=trodAll_cons r1
 obtain⟨hz,hzd,_⟩:=trodAll_nil r2
 subst hz ha2 ha1
 obtain rfl:args= #[v0,v1,v2]:=by cases args;simp_all
 obtain⟨l0,Im,him,rp0⟩:=zfM Tryz.underlying68 (by kernel_rfl) (by kernel_rfl) (okWide_slice Tryz.underlying68 (hval 0 68 v0 rfl rfl)) h0
 obtain⟨cs1,rfl,hc1⟩:=zd1 8 ztU (by kernel_rfl) (hval 1 51 v1 rfl rfl) h1
 obtain⟨x1,y1,z1,rfl⟩:=zdW hc1
 obtain⟨n2,rfl,_,_,hw2⟩:=open_int Tryz.underlying3 (hval 2 3 v2 rfl rfl) h2
 exact zcU Im him (zc5 l0 x1 y1 z1 n2) ⟨_,_,rfl,rp0,⟨_,_,rfl,zkW _ _ _ _,⟨_,_,rfl,rfl,rfl⟩⟩⟩
end Go.Fw
