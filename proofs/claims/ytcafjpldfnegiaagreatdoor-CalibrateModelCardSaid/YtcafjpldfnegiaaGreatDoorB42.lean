/- A part of the proof that the law returns true for every input: an executor for the model's code, and what functions of the program compute. -/
import Derived.Test.YtcafjpldfnegiaaGreatDoorB05
import Derived.Test.YtcafjpldfnegiaaGreatDoorB06
import Derived.Test.YtcafjpldfnegiaaGreatDoorB11
import Derived.Test.YtcafjpldfnegiaaGreatDoorB15
import Derived.Test.YtcafjpldfnegiaaGreatDoorB40
import Derived.Test.YtcafjpldfnegiaaGreatDoorB41
import Derived.KernelRfl
import Derived.RangeFuncNested
import Derived.RangeFuncBound
import Derived.RangeFuncCalls
import Derived.RangeFuncLeaves
import Derived.Shelf.Abstract
import Derived.Shelf.RegionOpen
import Derived.WalkKit
import Derived.OwnWalkIn
import Derived.TacticsInMore
import Derived.LoopNIn
import Derived.LoopIn
open Go IntKind
namespace Go.Fw
set_option maxRecDepth 100000
def Two(a b:Int):Prop:= ∃n,n≤500000000∧By n a∧By n b
theorem z1e(k a b:Int)(hk: -100≤k∧k≤100)(h:Two a b):PCall P 210 [j5 k,J2 a,J2 b] (J2 (k*(a*b))):=by
 obtain⟨n,hn,ha,hb⟩:=h
 exact za8 k a b hk ha hb (by omega)
theorem zdO(a b:Int)(h:Two a b):PCall P 246 [J2 a,J2 b] (j5 (a-b).sign):=by
 obtain⟨n,hn,ha,hb⟩:=h
 exact zqE a b (ha.sml (by omega)) (hb.sml (by omega)) (ha.sma hb (by omega))
theorem zok(a b:Int)(h:Two a b):PCall P 203 [J2 a,J2 b] (J2 (a*b)):=by
 obtain⟨n,hn,ha,hb⟩:=h
 exact z0a a b (ha.sml (by omega)) (hb.sml (by omega)) (ha.sm2 hb (by omega))
theorem z70(a b:Int)(h:Two a b):PCall P 202 [J2 a,J2 b] (J2 (a+b)):=by
 obtain⟨n,hn,ha,hb⟩:=h
 exact z1H a b (ha.sml (by omega)) (hb.sml (by omega)) (ha.sma hb (by omega))
theorem zdH(a b:Int)(h:Two a b):PCall P 209 [J2 a,J2 b] (J2 (a-b)):=by
 obtain⟨n,hn,ha,hb⟩:=h
 exact z7U a b (ha.sml (by omega)) (hb.sml (by omega)) (ha.sma hb (by omega))
theorem zrm(a b:Int)(c:Two a a)(d:(-100:Int)≤2∧(2:Int)≤100)(e:Two b b)(f:Two (a*a) ((2:Int)*(b*b)))(g:(-1:Int)≤a.sign∧a.sign≤1)(i:(-1:Int)≤(a*a-2*(b*b)).sign∧(a*a-2*(b*b)).sign≤1):PCall P 207 [J2 a,J2 b] (.lit (.int .i64 (z6R a.sign b.sign (a*a-2*(b*b)).sign))):=
 j3 (.r 4 (z0m a) (.r 6 (z0m b) (.r 9 (zok a a c) (.r 12 (z1e (2:Int) b b d e) (.r 13 (zdO (a*a) ((2:Int)*(b*b)) f) (.r 14 (z2Z a.sign b.sign ((a*a-2*(b*b)).sign) g i) .nil)))))) (by kernel_rfl)
def sg2(a b:Int):Int:=z6R a.sign b.sign (a*a-2*(b*b)).sign
theorem z66(a:Int): -1≤a.sign∧a.sign≤1:=by
 rcases Int.lt_trichotomy a 0 with h|h|h
 · rw[Int.sign_eq_neg_one_of_neg h];decide
 · rw[h];decide
 · rw[Int.sign_eq_one_of_pos h];decide
theorem zjk{a b c:Int}(ha: -1≤a∧a≤1)(hb: -1≤b∧b≤1)(hc: -1≤c∧c≤1): -1≤z6R a b c∧z6R a b c≤1:=by
 unfold z6R
 split
 · exact ha
 · split
   · exact hb
   · have:a= -1∨a=0∨a=1:=by omega
     rcases this with h|h|h<;>rw[h]<;>omega
theorem zi5(a b:Int): -1≤sg2 a b∧sg2 a b≤1:=zjk (z66 a) (z66 b) (z66 _)
def zcy(a b:Int):Prop:= ∃n,n≤100000000∧By n a∧By n b
theorem By.two{a:Int}{n:Nat}(h:By n a):By (n+1) (2*a):=by
 have:By 1 2:=by unfold By;decide
 have:=this.mul h
 rwa[Nat.add_comm]at this
theorem z1j(a b:Int)(h:zcy a b):PCall P 207 [J2 a,J2 b] (j5 (sg2 a b)):=by
 obtain⟨n,hn,ha,hb⟩:=h
 exact zrm a b ⟨n,by omega,ha,ha⟩ (by decide) ⟨n,by omega,hb,hb⟩ ⟨n+n+1,by omega,(ha.mul ha).mono (by omega),(hb.mul hb).two⟩ (z66 _) (z66 _)
theorem zrd(x:K)(h1:(sg2 x.c0 x.c1==sg2 x.c2 x.c3)=true)(a:Smk x)(d:zcy x.c0 x.c1)(e:zcy x.c2 x.c3)(f:(-1:Int)≤sg2 x.c0 x.c1∧sg2 x.c0 x.c1≤1)(g:(-1:Int)≤0∧(0:Int)≤1):PCall P 146 [Z0 x] (.lit (.int .i64 (z6R (sg2 x.c0 x.c1) (sg2 x.c2 x.c3) (0:Int)))):=
 j3 (.r 3 (z0j x a) (.c (bq 0 4) (.c (bq 1 4) (.c (bq 2 4) (.c (bq 3 4) (.c (lq 2 2) (.c (lq 2 2) (.c (lq 2 2) (.c (lq 2 2) (.r 28 (z1j x.c0 x.c1 d) (.r 31 (z1j x.c2 x.c3 e) (.b 37 h1 (.r 48 (z2Z (sg2 x.c0 x.c1) (sg2 x.c2 x.c3) (0:Int) f g) .nil))))))))))))) (by kernel_rfl)
theorem zoP(x:K)(h1:(sg2 x.c0 x.c1==sg2 x.c2 x.c3)=false)(h2:(sg2 x.c2 x.c3==0)=true)(a:Smk x)(d:zcy x.c0 x.c1)(e:zcy x.c2 x.c3)(f:(-1:Int)≤sg2 x.c0 x.c1∧sg2 x.c0 x.c1≤1)(g:(-1:Int)≤0∧(0:Int)≤1):PCall P 146 [Z0 x] (.lit (.int .i64 (z6R (sg2 x.c0 x.c1) (sg2 x.c2 x.c3) (0:Int)))):=
 j3 (.r 3 (z0j x a) (.c (bq 0 4) (.c (bq 1 4) (.c (bq 2 4) (.c (bq 3 4) (.c (lq 2 2) (.c (lq 2 2) (.c (lq 2 2) (.c (lq 2 2) (.r 28 (z1j x.c0 x.c1 d) (.r 31 (z1j x.c2 x.c3 e) (.b 37 h1 (.b 41 h2 (.r 48 (z2Z (sg2 x.c0 x.c1) (sg2 x.c2 x.c3) (0:Int) f g) .nil)))))))))))))) (by kernel_rfl)
theorem zni(x:K)(h1:(sg2 x.c0 x.c1==sg2 x.c2 x.c3)=false)(h2:(sg2 x.c2 x.c3==0)=false)(h3:(sg2 x.c0 x.c1==0)=true)(a:Smk x)(d:zcy x.c0 x.c1)(e:zcy x.c2 x.c3)(f:(-1:Int)≤sg2 x.c0 x.c1∧sg2 x.c0 x.c1≤1)(g:(-1:Int)≤0∧(0:Int)≤1):PCall P 146 [Z0 x] (.lit (.int .i64 (z6R (sg2 x.c0 x.c1) (sg2 x.c2 x.c3) (0:Int)))):=
 j3 (.r 3 (z0j x a) (.c (bq 0 4) (.c (bq 1 4) (.c (bq 2 4) (.c (bq 3 4) (.c (lq 2 2) (.c (lq 2 2) (.c (lq 2 2) (.c (lq 2 2) (.r 28 (z1j x.c0 x.c1 d) (.r 31 (z1j x.c2 x.c3 e) (.b 37 h1 (.b 41 h2 (.b 45 h3 (.r 48 (z2Z (sg2 x.c0 x.c1) (sg2 x.c2 x.c3) (0:Int) f g) .nil))))))))))))))) (by kernel_rfl)
theorem znG(x:K)(h1:(sg2 x.c0 x.c1==sg2 x.c2 x.c3)=false)(h2:(sg2 x.c2 x.c3==0)=false)(h3:(sg2 x.c0 x.c1==0)=false)(a:Smk x)(d:zcy x.c0 x.c1)(e:zcy x.c2 x.c3)(f:(-100:Int)≤1∧(1:Int)≤100)(g:Two x.c0 x.c0)(i:(-100:Int)≤2∧(2:Int)≤100)(j:Two x.c1 x.c1)(k:Two ((1:Int)*(x.c0*x.c0)) ((2:Int)*(x.c1*x.c1)))(l:(-100:Int)≤3∧(3:Int)≤100)(m:Two x.c2 x.c2)(n:(-100:Int)≤6∧(6:Int)≤100)(o:Two x.c3 x.c3)(p:Two ((3:Int)*(x.c2*x.c2)) ((6:Int)*(x.c3*x.c3)))(q:Two ((1:Int)*(x.c0*x.c0)+2*(x.c1*x.c1)) ((3:Int)*(x.c2*x.c2)+6*(x.c3*x.c3)))(s:(-100:Int)≤2∧(2:Int)≤100)(t:Two x.c0 x.c1)(u:(-100:Int)≤6∧(6:Int)≤100)(v:Two x.c2 x.c3)(w:Two ((2:Int)*(x.c0*x.c1)) ((6:Int)*(x.c2*x.c3)))(y:zcy ((1:Int)*(x.c0*x.c0)+2*(x.c1*x.c1)-((3:Int)*(x.c2*x.c2)+6*(x.c3*x.c3))) ((2:Int)*(x.c0*x.c1)-6*(x.c2*x.c3)))(z:(-1:Int)≤sg2 x.c0 x.c1∧sg2 x.c0 x.c1≤1)(a0:(-1:Int)≤sg2 ((1:Int)*(x.c0*x.c0)+2*(x.c1*x.c1)-((3:Int)*(x.c2*x.c2)+6*(x.c3*x.c3))) ((2:Int)*(x.c0*x.c1)-6*(x.c2*x.c3))∧sg2 ((1:Int)*(x.c0*x.c0)+2*(x.c1*x.c1)-((3:Int)*(x.c2*x.c2)+6*(x.c3*x.c3))) ((2:Int)*(x.c0*x.c1)-6*(x.c2*x.c3))≤1):PCall P 146 [Z0 x] (.lit (.int .i64 (z6R (sg2 x.c0 x.c1) (sg2 x.c2 x.c3) (sg2 ((1:Int)*(x.c0*x.c0)+2*(x.c1*x.c1)-((3:Int)*(x.c2*x.c2)+6*(x.c3*x.c3))) ((2:Int)*(x.c0*x.c1)-6*(x.c2*x.c3)))))):=
 j3 (.r 3 (z0j x a) (.c (bq 0 4) (.c (bq 1 4) (.c (bq 2 4) (.c (bq 3 4) (.c (lq 2 2) (.c (lq 2 2) (.c (lq 2 2) (.c (lq 2 2) (.r 28 (z1j x.c0 x.c1 d) (.r 31 (z1j x.c2 x.c3 e) (.b 37 h1 (.b 41 h2 (.b 45 h3 (.r 48 (z1e (1:Int) x.c0 x.c0 f g) (.r 51 (z1e (2:Int) x.c1 x.c1 i j) (.r 52 (z70 ((1:Int)*(x.c0*x.c0)) ((2:Int)*(x.c1*x.c1)) k) (.r 55 (z1e (3:Int) x.c2 x.c2 l m) (.r 58 (z1e (6:Int) x.c3 x.c3 n o) (.r 59 (z70 ((3:Int)*(x.c2*x.c2)) ((6:Int)*(x.c3*x.c3)) p) (.r 60 (zdH ((1:Int)*(x.c0*x.c0)+2*(x.c1*x.c1)) ((3:Int)*(x.c2*x.c2)+6*(x.c3*x.c3)) q) (.c (lq 2 2) (.r 65 (z1e (2:Int) x.c0 x.c1 s t) (.r 68 (z1e (6:Int) x.c2 x.c3 u v) (.r 69 (zdH ((2:Int)*(x.c0*x.c1)) ((6:Int)*(x.c2*x.c3)) w) (.c (lq 2 2) (.r 76 (z1j ((1:Int)*(x.c0*x.c0)+2*(x.c1*x.c1)-((3:Int)*(x.c2*x.c2)+6*(x.c3*x.c3))) ((2:Int)*(x.c0*x.c1)-6*(x.c2*x.c3)) y) (.r 77 (z2Z (sg2 x.c0 x.c1) (sg2 x.c2 x.c3) (sg2 ((1:Int)*(x.c0*x.c0)+2*(x.c1*x.c1)-((3:Int)*(x.c2*x.c2)+6*(x.c3*x.c3))) ((2:Int)*(x.c0*x.c1)-6*(x.c2*x.c3))) z a0) .nil)))))))))))))))))))))))))))) (by kernel_rfl)
section
variable{R:Type}[CR R][Sg R] {m:R}[im:Sg.Irr m]
theorem Adj.sg_mix(x:Adj R m):Adj.sg x=z6R (Sg.sg x.re) (Sg.sg x.im) (Sg.sg (Adj.nm x)):=by
 have hz:=Adj.nm_zero x
 rcases Sg.vals (Adj.nm x)with hn|hn|hn
 · -- the second part is the greater
   have hi:=Adj.im_ne hn
   have e:Adj.sg x=Sg.sg x.im:=by unfold Adj.sg;rw[hn,if_neg (by decide),if_pos rfl]
   rw[e,hn]
   unfold z6R
   rcases Sg.vals x.re with ha|ha|ha<;>rcases Sg.vals x.im with hb|hb|hb<;>rw[ha,hb]<;>first|rfl|exact absurd hb hi
 · have e:Adj.sg x=0:=by unfold Adj.sg;rw[hn,if_neg (by decide),if_neg (by decide)]
   have h0:=hz.1 hn
   have hr:Sg.sg x.re=0:=by rw[h0];exact(Sg.zero _).2 rfl
   have hi:Sg.sg x.im=0:=by rw[h0];exact(Sg.zero _).2 rfl
   rw[e,hr,hi];rfl
 · have hr:=Adj.re_ne hn
   have e:Adj.sg x=Sg.sg x.re:=by unfold Adj.sg;rw[hn,if_pos rfl]
   rw[e,hn]
   unfold z6R
   rcases Sg.vals x.re with ha|ha|ha<;>rcases Sg.vals x.im with hb|hb|hb<;>rw[ha,hb]<;>first|rfl|exact absurd ha hr
end
theorem zec(a b:Int):sg2 a b=Adj.sg (⟨a,b⟩:Z2):=by
 rw[Adj.sg_mix];rfl
theorem z4U{a b c c':Int}(h:a=b∨b=0∨a=0):z6R a b c=z6R a b c':=by
 unfold z6R
 rcases h with h|h|h
 · rw[if_pos (.inl h),if_pos (.inl h)]
 · rw[if_pos (.inr h),if_pos (.inr h)]
 · rw[if_pos h,if_pos h]
def ztq(x:K):Int:=z6R (sg2 x.c0 x.c1) (sg2 x.c2 x.c3) (sg2 (1*(x.c0*x.c0)+2*(x.c1*x.c1)-(3*(x.c2*x.c2)+6*(x.c3*x.c3))) (2*(x.c0*x.c1)-6*(x.c2*x.c3)))
theorem zlH(x:K):ztq x=K.sgn x:=by
 show _=Adj.sg (K.num x)
 rw[Adj.sg_mix]
 unfold ztq
 rw[zec,zec,zec]
 show z6R _ _ _=z6R (Adj.sg (K.num x).re) (Adj.sg (K.num x).im) (Adj.sg (Adj.nm (K.num x)))
 congr 2
 refine Adj.ext ?_ ?_
 · show 1*(x.c0*x.c0)+2*(x.c1*x.c1)-(3*(x.c2*x.c2)+6*(x.c3*x.c3))=x.c0*x.c0+2*(x.c1*x.c1)-(3*(x.c2*x.c2+2*(x.c3*x.c3))+2*(0*(x.c2*x.c3+x.c3*x.c2)))
   grind
 · show 2*(x.c0*x.c1)-6*(x.c2*x.c3)=x.c0*x.c1+x.c1*x.c0-(3*(x.c2*x.c3+x.c3*x.c2)+0*(x.c2*x.c2+2*(x.c3*x.c3)))
   grind
theorem By.k{a k:Int}{n:Nat}(hk: -100≤k∧k≤100)(h:By n a):By (n+1) (k*a):=by
 have:By 1 k:=by unfold By;omega
 have:=this.mul h
 rwa[Nat.add_comm]at this
theorem By.sub{a b:Int}{n:Nat}(h:By n a)(k:By n b):By (n+1) (a-b):=by
 have:=h.add k.neg
 rwa[←Int.sub_eq_add_neg]at this
theorem zlX(x:K)(hx:x.sz≤10000000):PCall P 146 [Z0 x] (j5 (K.sgn x)):=by
 obtain⟨x0,x1,x2,x3,_⟩:=By.of_sz hx
 have hs:Smk x:=by simp only[Smk];omega
 have t01:zcy x.c0 x.c1:=⟨_,by decide,x0,x1⟩
 have t23:zcy x.c2 x.c3:=⟨_,by decide,x2,x3⟩
 have b1:=zi5 x.c0 x.c1
 rw[←zlH]
 unfold ztq
 by_cases h1:sg2 x.c0 x.c1=sg2 x.c2 x.c3
 · rw[z4U (c':=0) (.inl h1)]
   exact zrd x (by simp[h1]) hs t01 t23 b1 (by decide)
 · by_cases h2:sg2 x.c2 x.c3=0
   · rw[z4U (c':=0) (.inr (.inl h2))]
     exact zoP x (beq_false_of_ne h1) (by simp[h2]) hs t01 t23 b1 (by decide)
   · by_cases h3:sg2 x.c0 x.c1=0
     · rw[z4U (c':=0) (.inr (.inr h3))]
       exact zni x (beq_false_of_ne h1) (beq_false_of_ne h2) (by simp[h3]) hs t01 t23 b1 (by decide)
     · obtain⟨n,hn,hy⟩: ∃n,n≤10000000∧x.sz≤n:=⟨_,Nat.le_refl _,hx⟩
       obtain⟨y0,y1,y2,y3,_⟩:=By.of_sz hy
       have tw: ∀{a b:Int},By n a→By n b→Two a b:=fun ha hb=>⟨n,by omega,ha,hb⟩
       have q0:=(y0.mul y0).k (k:=1) (by decide)
       have q1:=(y1.mul y1).k (k:=2) (by decide)
       have q2:=(y2.mul y2).k (k:=3) (by decide)
       have q3:=(y3.mul y3).k (k:=6) (by decide)
       have r1:=(y0.mul y1).k (k:=2) (by decide)
       have r2:=(y2.mul y3).k (k:=6) (by decide)
       have u1:=q0.add q1
       have u2:=q2.add q3
       exact znG x (beq_false_of_ne h1) (beq_false_of_ne h2) (beq_false_of_ne h3) hs t01 t23 (by decide) (tw y0 y0) (by decide) (tw y1 y1) ⟨_,by omega,q0,q1⟩ (by decide) (tw y2 y2) (by decide) (tw y3 y3) ⟨_,by omega,q2,q3⟩ ⟨_,by omega,u1,u2⟩
        (by decide) (tw y0 y1) (by decide) (tw y2 y3) ⟨_,by omega,r1,r2⟩ ⟨_,by omega,u1.sub u2,(r1.sub r2).mono (Nat.le_succ _)⟩ b1 (zi5 _ _)
noncomputable def zdC(x:RN):Int:=match toO x with
 |some k=>K.sgn k
 |none=>0
theorem z9Y(x:RN)(hx:x.raw 1000000=true):PCall P 146 [x.c] (j5 (zdC x)):=by
 unfold zdC
 cases ex:toO x with
 |none=>exact zjL x (z0i ex) hx
 |some k=>
  have a:=z11 ex hx
  rw[zc7 (z18 ex).2]
  exact zlX k (by omega)
open Go.RowKit Go.Shelf Go.Proofs
section
variable{F:Fence}{n:Nat}{P:Program}{ops:Array Oper}{Q:Exit→Act→World→Prop}{a:Act}{w w':World}{rest:List Oper}{o:Oper}
theorem z3k {T : TypeId} {p : Operand} {d : Value} {v : Value} (hg : o.guard = none) (hop : o.op = .load T p) (hp : a.eval p = d) (hrun : (Instr.loadAt T d).run P w = .ok v w)
    (hk:wpListIn F n P ops Q rest (a.put o.dst v) w):wpListIn F n P ops Q (o::rest) a w:=by
 refine wpListIn_plain hg fun K hK=>?_
 refine⟨fun f hf=>?_,?_⟩
 · simp[Oper.about,hop]at hf
 · have hr:(execOp a.eval o).run P w= .ok (.value v) w:=by unfold execOp;rw[hop];simp only[hp];simp[hrun]
   rw[Oper.semAt_eq _ _ _ (by simp[hop]),hr]
   exact hK _ _ hk
theorem z5S {T : TypeId} {p x : Operand} {d v : Value} (hg : o.guard = none) (hop : o.op = .store T p x) (hp : a.eval p = d) (hx : a.eval x = v) (hrun : (Instr.storeAt T d v).run P w = .ok () w')
    (hk:wpListIn F n P ops Q rest (a.put o.dst undef) w'):wpListIn F n P ops Q (o::rest) a w:=by
 refine wpListIn_plain hg fun K hK=>?_
 refine⟨fun f hf=>?_,?_⟩
 · simp[Oper.about,hop]at hf
 · have hr:(execOp a.eval o).run P w= .ok .skip w':=by unfold execOp;rw[hop];simp only[hp,hx];simp[hrun]
   rw[Oper.semAt_eq _ _ _ (by simp[hop]),hr]
   exact hK _ _ hk
end
theorem zau {T : TypeId} {fs : Array Field} {w : World} {b off : Nat} {c : Array Value} {t : TypeId} {fz : Nat × Nat} {v : Array Value} (hu : P.underlying T = some (.struct fs)) (hb : w.heap[b]? = some (.cells c t fz))
    (hv:v.toList=(c.toList.drop off).take (P.cellsOf T)) (hs:v.size=P.cellsOf T):(Instr.loadAt T (.pointer (some ⟨b,off,none⟩))).run P w= .ok (.agg v) w:=by
 obtain⟨y,h1,h2,_⟩:=z6k (P:=P) (w:=w) (off:=off) hb hu rfl hv (by simpa using hs) (fun h=>by cases h)
 rw[show Value.agg v=y by rw[h2 rfl]]
 simpa[Instr.loadAt,Instr.sureAddr]using h1
theorem z8M {T : TypeId} {i : TypeInfo} {w : World} {c v : Array Value} {t : TypeId} (hi : P.info? T = some i) (hs : v.size = P.cellsOf T) (hc : c.size = v.size) (ho : ∀ x ∈ v.toList, x.oneCell' = true) :
    (Instr.storeAt T (.pointer (some ⟨w.heap.size,0,none⟩)) (.agg v)).run P (w.alloc (.cells c t))= .ok () (w.alloc (.cells v t)):=by
 have hst:=run_storeCells_at P w.heap.size 0 t v.toList 0 c (w.alloc (.cells c t)) (World.alloc_heap_new w _) (by simp;omega) ho
 simp only[Nat.add_zero,List.take_zero,List.nil_append,Nat.zero_add]at hst
 have e:(w.alloc (.cells c t)).setRow w.heap.size (v.toList++c.toList.drop v.toList.length).toArray=w.alloc (.cells v t):=by
  rw[List.drop_of_length_le (by simp;omega),List.append_nil]
  show World.mk _ _ _ _ _=World.mk _ _ _ _ _
  refine congrArg (fun h=>World.mk h w.tape w.drawn w.os w.output) ?_
  show(w.heap.push (Obj.cells c t)).modify w.heap.size _=w.heap.push (Obj.cells v t)
  refine Array.ext (by simp) fun k h1 h2=>?_
  rw[Array.getElem_modify,Array.getElem_push,Array.getElem_push]
  simp at h1
  split
  · rename_i e
    subst e
    simp
  · rw[dif_pos (by omega),dif_pos (by omega)]
 rw[e]at hst
 simp[Instr.storeAt,Instr.sureAddr,storeVar,V4 hi,Value.cells,hs,hst]
attribute [local go_sem] Oper.semAt_some
set_option maxHeartbeats 1000000
theorem zo0 (F : Fence) (n : Nat) (h : F.fn 212) (hro : F.round = none) (a : Array Value) (w : World) :
    CallsIn F n Tryz.prog 212 #[.agg a] w fun e w'=>e= .returned (.func (.func 247) #[] #[.pointer (some ⟨w.heap.size,0,none⟩)])∧w'=w.alloc (.cells a 51):=by
 refine callsIn_of_wp Tryz.func212 rfl h ?_ hro
 simp only[Tryz.ntmps212,List.size_toArray,List.length_cons,List.length_nil,Nat.reduceAdd,Nat.reduceSub,Array.replicate_succ,Array.replicate_zero,List.push_toArray,List.append_toArray,List.nil_append,List.cons_append]
 gi_wp2
 go_ret
 exact⟨rfl,rfl⟩
theorem Z8{w:World}{b k:Nat}{c:Array Value}{T:TypeId}{fz:Nat×Nat}{v:Value}(h:w.heap[b]?=some (.cells c T fz))(hv:c[k]?=some v):w.cell? ⟨b,k,none⟩=some v:=by
 rw[cell_of_row w b k c T fz h]
 simpa using hv
theorem z9E (x0 x1 x2 x3 x4 x5 x6 x7 x8 x9 y0 y1 y2 y3 y4 y5 y6 y7 y8 y9 z0 z1 z2 z3 z4 z5 z6 z7 z8 z9 : Value) (w : World) :
    (Instr.index 166 (.agg #[x0,x1,x2,x3,x4,x5,x6,x7,x8,x9,y0,y1,y2,y3,y4,y5,y6,y7,y8,y9,z0,z1,z2,z3,z4,z5,z6,z7,z8,z9]) (.int .i64 0)).run Tryz.prog w= .ok (.agg #[x0,x1,x2,x3,x4,x5,x6,x7,x8,x9]) w∧
    (Instr.index 166 (.agg #[x0,x1,x2,x3,x4,x5,x6,x7,x8,x9,y0,y1,y2,y3,y4,y5,y6,y7,y8,y9,z0,z1,z2,z3,z4,z5,z6,z7,z8,z9]) (.int .i64 1)).run Tryz.prog w= .ok (.agg #[y0,y1,y2,y3,y4,y5,y6,y7,y8,y9]) w∧
    (Instr.index 166 (.agg #[x0,x1,x2,x3,x4,x5,x6,x7,x8,x9,y0,y1,y2,y3,y4,y5,y6,y7,y8,y9,z0,z1,z2,z3,z4,z5,z6,z7,z8,z9]) (.int .i64 2)).run Tryz.prog w= .ok (.agg #[z0,z1,z2,z3,z4,z5,z6,z7,z8,z9]) w:=by
 refine⟨?_,?_,?_⟩<;>simp[Instr.index,asIntOf,run_underlying Tryz.underlying166,Tryz.sizeOf39,part,isAgg,run_underlying Tryz.underlying39]
theorem zel {α : Type} (enc : α → Array Value) (u0 u1 u2 : α) (F : Fence) (n : Nat) (h : F.fn 247) (hro : F.round = none) (hn : 1 ≤ n) (Bn n₀ : Nat) (x0 : Bool) (x1 : ByteArray) (x2 : Bool) (x3 : ByteArray) (x4 : Bool) (x5 : ByteArray) (x6 : Bool) (x7 : ByteArray) (x8 : Bool) (x9 : ByteArray) (y0 : Bool) (y1 : ByteArray) (y2 : Bool) (y3 : ByteArray) (y4 : Bool) (y5 : ByteArray) (y6 : Bool) (y7 : ByteArray) (y8 : Bool) (y9 : ByteArray) (z0 : Bool) (z1 : ByteArray) (z2 : Bool) (z3 : ByteArray) (z4 : Bool) (z5 : ByteArray) (z6 : Bool) (z7 : ByteArray) (z8 : Bool) (z9 : ByteArray) (w : World) (hBn : Bn < w.heap.size)
    (hc:w.heap[Bn]?=some (.cells #[.bool x0,.string x1,.bool x2,.string x3,.bool x4,.string x5,.bool x6,.string x7,.bool x8,.string x9,.bool y0,.string y1,.bool y2,.string y3,.bool y4,.string y5,.bool y6,.string y7,.bool y8,.string y9,.bool z0,.string z1,.bool z2,.string z3,.bool z4,.string z5,.bool z6,.string z7,.bool z8,.string z9] 51 (0,0)))
    (e0:enc u0= #[.int .i64 0,.agg #[.bool x0,.string x1,.bool x2,.string x3,.bool x4,.string x5,.bool x6,.string x7,.bool x8,.string x9]]) (e1:enc u1= #[.int .i64 1,.agg #[.bool y0,.string y1,.bool y2,.string y3,.bool y4,.string y5,.bool y6,.string y7,.bool y8,.string y9]]) (e2:enc u2= #[.int .i64 2,.agg #[.bool z0,.string z1,.bool z2,.string z3,.bool z4,.string z5,.bool z6,.string z7,.bool z8,.string z9]]):
    SeqStopsK F n Tryz.prog 247 #[.pointer (some ⟨Bn,0,none⟩)] enc (Below n₀) (fun ys=>ys=[u0,u1,u2]) (fun pre=>pre<+:[u0,u1,u2]) 3 w:=fun l J Jx W hW hJ hJx hY h0=>by
 refine callsIn_of_wp Tryz.func247 rfl h ?_ hro
 simp only[Tryz.ntmps247,List.size_toArray,List.length_cons,List.length_nil,Nat.reduceAdd,Nat.reduceSub,Array.replicate_succ,Array.replicate_zero,List.push_toArray,List.append_toArray,List.nil_append,List.cons_append]
 have hb:=(hW.block Bn hBn).trans hc
 have c0:=Z8 (k:=0) hb rfl
 have c1:=Z8 (k:=1) hb rfl
 have c2:=Z8 (k:=2) hb rfl
 have c3:=Z8 (k:=3) hb rfl
 have c4:=Z8 (k:=4) hb rfl
 have c5:=Z8 (k:=5) hb rfl
 have c6:=Z8 (k:=6) hb rfl
 have c7:=Z8 (k:=7) hb rfl
 have c8:=Z8 (k:=8) hb rfl
 have c9:=Z8 (k:=9) hb rfl
 have c10:=Z8 (k:=10) hb rfl
 have c11:=Z8 (k:=11) hb rfl
 have c12:=Z8 (k:=12) hb rfl
 have c13:=Z8 (k:=13) hb rfl
 have c14:=Z8 (k:=14) hb rfl
 have c15:=Z8 (k:=15) hb rfl
 have c16:=Z8 (k:=16) hb rfl
 have c17:=Z8 (k:=17) hb rfl
 have c18:=Z8 (k:=18) hb rfl
 have c19:=Z8 (k:=19) hb rfl
 have c20:=Z8 (k:=20) hb rfl
 have c21:=Z8 (k:=21) hb rfl
 have c22:=Z8 (k:=22) hb rfl
 have c23:=Z8 (k:=23) hb rfl
 have c24:=Z8 (k:=24) hb rfl
 have c25:=Z8 (k:=25) hb rfl
 have c26:=Z8 (k:=26) hb rfl
 have c27:=Z8 (k:=27) hb rfl
 have c28:=Z8 (k:=28) hb rfl
 have c29:=Z8 (k:=29) hb rfl
 gi_wp2
 gi_loopw [12] (fun p wr=>(p= .int .i64 0∧J [] wr)∨(p= .int .i64 1∧J [u0] wr)∨(p= .int .i64 2∧J [u0,u1] wr)∨(p= .int .i64 3∧J [u0,u1,u2] wr)) (fun p wr=>3-(intOf p).toNat)
 case atStart=>
  exact .inl ⟨rfl,h0⟩
 case round=>
  rcases hrel with⟨rfl,hJs⟩|⟨rfl,hJs⟩|⟨rfl,hJs⟩|⟨rfl,hJs⟩
  · obtain⟨fn,tmps,assign,body,hy,hR⟩:=hY [] u0 (wr.alloc (.cells #[.bool x0,.string x1,.bool x2,.string x3,.bool x4,.string x5,.bool x6,.string x7,.bool x8,.string x9] 39)) (hJ _ wr _ none hJs (World.grownBy_alloc wr _ none) (fun r e=>by cases e)) (by simp)
    rw[e0]at hy
    obtain⟨i0,i1,i2⟩:=z9E (.bool x0) (.string x1) (.bool x2) (.string x3) (.bool x4) (.string x5) (.bool x6) (.string x7) (.bool x8) (.string x9) (.bool y0) (.string y1) (.bool y2) (.string y3) (.bool y4) (.string y5) (.bool y6) (.string y7) (.bool y8) (.string y9) (.bool z0) (.string z1) (.bool z2) (.string z3) (.bool z4) (.string z5) (.bool z6) (.string z7) (.bool z8) (.string z9) wr
    gi_wp2_with (rw[i0])
    refine hR.mono ?_
    rintro e W3 (⟨rfl,hJ3,hk3⟩|⟨rfl,hJx3⟩)
    · gi_wp2
      go_roundw
      case rel=>exact .inr (.inl ⟨rfl,hJ3⟩)
      case measure=>simp[intOf]
    · gi_wp2
      refine bodyPost_ret (results_none rfl _ _ _) rfl ?_
      exact⟨⟨_,rfl⟩,.inr ⟨_,by simp,hJx3⟩⟩
  · obtain⟨fn,tmps,assign,body,hy,hR⟩:=hY [u0] u1 (wr.alloc (.cells #[.bool y0,.string y1,.bool y2,.string y3,.bool y4,.string y5,.bool y6,.string y7,.bool y8,.string y9] 39)) (hJ _ wr _ none hJs (World.grownBy_alloc wr _ none) (fun r e=>by cases e)) (by simp)
    rw[e1]at hy
    obtain⟨i0,i1,i2⟩:=z9E (.bool x0) (.string x1) (.bool x2) (.string x3) (.bool x4) (.string x5) (.bool x6) (.string x7) (.bool x8) (.string x9) (.bool y0) (.string y1) (.bool y2) (.string y3) (.bool y4) (.string y5) (.bool y6) (.string y7) (.bool y8) (.string y9) (.bool z0) (.string z1) (.bool z2) (.string z3) (.bool z4) (.string z5) (.bool z6) (.string z7) (.bool z8) (.string z9) wr
    gi_wp2_with (rw[i1])
    refine hR.mono ?_
    rintro e W3 (⟨rfl,hJ3,hk3⟩|⟨rfl,hJx3⟩)
    · gi_wp2
      go_roundw
      case rel=>exact .inr (.inr (.inl ⟨rfl,hJ3⟩))
      case measure=>simp[intOf]
    · gi_wp2
      refine bodyPost_ret (results_none rfl _ _ _) rfl ?_
      exact⟨⟨_,rfl⟩,.inr ⟨_,by simp,hJx3⟩⟩
  · obtain⟨fn,tmps,assign,body,hy,hR⟩:=hY [u0,u1] u2 (wr.alloc (.cells #[.bool z0,.string z1,.bool z2,.string z3,.bool z4,.string z5,.bool z6,.string z7,.bool z8,.string z9] 39)) (hJ _ wr _ none hJs (World.grownBy_alloc wr _ none) (fun r e=>by cases e)) (by simp)
    rw[e2]at hy
    obtain⟨i0,i1,i2⟩:=z9E (.bool x0) (.string x1) (.bool x2) (.string x3) (.bool x4) (.string x5) (.bool x6) (.string x7) (.bool x8) (.string x9) (.bool y0) (.string y1) (.bool y2) (.string y3) (.bool y4) (.string y5) (.bool y6) (.string y7) (.bool y8) (.string y9) (.bool z0) (.string z1) (.bool z2) (.string z3) (.bool z4) (.string z5) (.bool z6) (.string z7) (.bool z8) (.string z9) wr
    gi_wp2_with (rw[i2])
    refine hR.mono ?_
    rintro e W3 (⟨rfl,hJ3,hk3⟩|⟨rfl,hJx3⟩)
    · gi_wp2
      go_roundw
      case rel=>exact .inr (.inr (.inr ⟨rfl,hJ3⟩))
      case measure=>simp[intOf]
    · gi_wp2
      refine bodyPost_ret (results_none rfl _ _ _) rfl ?_
      exact⟨⟨_,rfl⟩,.inr ⟨_,by simp,hJx3⟩⟩
  · gi_wp2
    go_end0
    exact⟨⟨_,rfl⟩,.inl ⟨_,rfl,hJs⟩⟩
end Go.Fw
open Go Go.RowKit Go.Shelf Go.Proofs
namespace Go.Fw
attribute [local go_sem] Oper.semAt_some
set_option maxRecDepth 100000
set_option maxHeartbeats 1000000
def RN.a(x:RN):Array Value:= #[.bool x.b0,.string x.s0,.bool x.b1,.string x.s1,.bool x.b2,.string x.s2,.bool x.b3,.string x.s3,.bool x.b4,.string x.s4]
theorem zco(Im:Imm)(l:List Value):CV.repL Im (l.map .lit) l:=by
 induction l with
 |nil=>rfl
 |cons x xs ih=>exact⟨x,xs,rfl,rfl,ih⟩
theorem z54{Im:Imm}: ∀{l k:List Value},CV.repL Im (l.map .lit) k→k=l
 | [],_,h=>h
 |_::_,_,⟨_,_,e,h1,h2⟩=>by rw[e,show _=_ from h1,z54 h2]
theorem PCall.num{f:FuncId}{x:RN}{v:Value}(h:PCall P f [.agg x.l] (.lit v))(w:World):Calls P f #[.agg x.a] w fun e w'=>e= .returned v∧Below w.heap.size w w':=by
 refine(h (fun _=>none) w #[.agg x.a] (fun b cs hb=>by cases hb) ⟨_,_,rfl,⟨_,rfl,?_⟩,rfl⟩).mono ?_
 · exact zco _ [.bool x.b0,.string x.s0,.bool x.b1,.string x.s1,.bool x.b2,.string x.s2,.bool x.b3,.string x.s3,.bool x.b4,.string x.s4]
 · rintro e w' ⟨y,v',I,rfl,rfl,hr,_,_,hb,_⟩
   exact⟨by rw[show y=v from hr],hb⟩
theorem z5X{W W':World}(h:Below W.heap.size W W')(B:Nat):KeepsFrom B W W':=⟨h.size,fun _ _ _ hk _=>(h.block _ (Array.getElem?_eq_some_iff.1 hk).1).trans hk⟩
theorem zfp{β:Type}(n B:Nat)(c:β→Array Value)(T:TypeId):OwnFrom n (fun(s:β) W=>W.heap[B]?=some (.cells (c s) T (0,0))):=fun _ _ _ _ hs hg hr=>
 (hg.block B (Array.getElem?_eq_some_iff.1 hs).1 (fun e=>by obtain⟨_,o,ho,hc⟩:=hr B e.symm;rw[hs]at ho;cases ho;cases hc)).trans hs
abbrev RNS:={x:RN//x.raw 1000000=true}
abbrev enR(p:Nat×RNS):Array Value:= #[.int .i64 p.1,.agg p.2.1.a]
theorem z9Z:Tryz.prog.cellsOf 39=10:=by kernel_rfl
theorem zdr:Tryz.prog.cellsOf 51=30:=by kernel_rfl
theorem zpY: ∃i,Tryz.prog.info? 39=some i:=Option.isSome_iff_exists.1 (by kernel_rfl)
theorem RN.a_one(x:RN): ∀v∈x.a.toList,v.oneCell'=true:=by
 intro v hv
 simp only[RN.a,List.mem_cons,List.not_mem_nil,or_false]at hv
 rcases hv with rfl|rfl|rfl|rfl|rfl|rfl|rfl|rfl|rfl|rfl<;>rfl
theorem zei(x:RN)(w:World)(c:Array Value)(hc:c.size=10):(Instr.storeAt 39 (.pointer (some ⟨w.heap.size,0,none⟩)) (.agg x.a)).run Tryz.prog (w.alloc (.cells c 39))= .ok () (w.alloc (.cells x.a 39)):=by
 obtain⟨i,hi⟩:=zpY
 exact z8M hi (by rw[z9Z];rfl) hc x.a_one
theorem zhP{x:RN}{w:World}{b:Nat}(h:w.heap[b]?=some (.cells x.a 39 (0,0))):(Instr.loadAt 39 (.pointer (some ⟨b,0,none⟩))).run Tryz.prog w= .ok (.agg x.a) w:=
 zau Tryz.underlying39 h (by rw[z9Z];rfl) (by rw[z9Z];rfl)
theorem zhN{v:Array Value}(hv:v.size=30){w:World}{b:Nat}(h:w.heap[b]?=some (.cells v 51 (0,0))):(Instr.loadAt 51 (.pointer (some ⟨b,0,none⟩))).run Tryz.prog w= .ok (.agg v) w:=
 zau Tryz.underlying51 h (by rw[zdr,List.drop_zero,List.take_of_length_le (by simp;omega)]) (by rw[zdr,hv])
theorem zmi (F : Fence) (n : Nat) (h1 : F.fn 148) (h2 : F.fn 212) (h3 : F.fn 247) (h4 : F.fn 154) (hro : F.round = none) (hn : 6 ≤ n)
    (hV: ∀(m:Nat) (x:RNS) (W:World),CallsIn F m Tryz.prog 154 #[.agg x.1.a] W fun e W'=>e= .returned (.bool x.1.ok)∧Below W.heap.size W W')
    (x0:Bool) (x1:ByteArray) (x2:Bool) (x3:ByteArray) (x4:Bool) (x5:ByteArray) (x6:Bool) (x7:ByteArray) (x8:Bool) (x9:ByteArray) (y0:Bool) (y1:ByteArray) (y2:Bool) (y3:ByteArray) (y4:Bool) (y5:ByteArray) (y6:Bool) (y7:ByteArray) (y8:Bool) (y9:ByteArray) (z0:Bool) (z1:ByteArray) (z2:Bool) (z3:ByteArray) (z4:Bool) (z5:ByteArray) (z6:Bool) (z7:ByteArray) (z8:Bool) (z9:ByteArray) (hx:RN.raw 1000000 ⟨x0,x1,x2,x3,x4,x5,x6,x7,x8,x9⟩=true) (hy:RN.raw 1000000 ⟨y0,y1,y2,y3,y4,y5,y6,y7,y8,y9⟩=true) (hz:RN.raw 1000000 ⟨z0,z1,z2,z3,z4,z5,z6,z7,z8,z9⟩=true) (v:Array Value) (hv:v.toList=[.bool x0,.string x1,.bool x2,.string x3,.bool x4,.string x5,.bool x6,.string x7,.bool x8,.string x9,.bool y0,.string y1,.bool y2,.string y3,.bool y4,.string y5,.bool y6,.string y7,.bool y8,.string y9,.bool z0,.string z1,.bool z2,.string z3,.bool z4,.string z5,.bool z6,.string z7,.bool z8,.string z9]) (w:World):
    CallsIn F n Tryz.prog 148 #[.agg v] w fun e W'=>e= .returned (.bool (ok3 ⟨x0,x1,x2,x3,x4,x5,x6,x7,x8,x9⟩ ⟨y0,y1,y2,y3,y4,y5,y6,y7,y8,y9⟩ ⟨z0,z1,z2,z3,z4,z5,z6,z7,z8,z9⟩))∧Below w.heap.size w W':=by
 have h1n:1≤n:=by omega
 refine callsIn_of_wp_marks Tryz.func148 rfl h1 ?_ hro
 simp only[Tryz.ntmps148,List.size_toArray,List.length_cons,List.length_nil,Nat.reduceAdd,Nat.reduceSub,Array.replicate_succ,Array.replicate_zero,List.push_toArray,List.append_toArray,List.nil_append,List.cons_append]
 have hvs:v.size=30:=by rw[←Array.length_toList,hv];rfl
 have hb:((w.alloc (.cells v 51)).alloc (.cells #[.bool false] 4)).heap[w.heap.size]?=some (.cells v 51 (0,0)):=
  (Below.heap_alloc _ _ _ (by simp)).trans (World.alloc_heap_new w _)
 have hl:=zhN hvs hb
 gi_wp2_with (first|(gi_at_call 212;refine(zo0 F (n-1) h2 hro _ _).mono ?_;rintro e w' ⟨rfl,rfl⟩)|refine z3k rfl rfl rfl hl ?_)
 clear hb hl
 have bR:=(Boxed.new (w.alloc (.cells v 51)) 4 (.bool false)).alloc (.cells v 51)
 rw[World.size_alloc]at bR
 have hB0:Below w.heap.size w (((w.alloc (.cells v 51)).alloc (.cells #[.bool false] 4)).alloc (.cells v 51)):=(((Below.refl _ w).alloc (Nat.le_refl _) _).alloc (by simp) _).alloc (by simp;omega) _
 have hsz:(((w.alloc (.cells v 51)).alloc (.cells #[.bool false] 4)).alloc (.cells v 51)).heap.size=w.heap.size+3:=by simp
 have bV:(((w.alloc (.cells v 51)).alloc (.cells #[.bool false] 4)).alloc (.cells v 51)).heap[w.heap.size+1+1]?=some (.cells v 51 (0,0)):=by
  have:=World.alloc_heap_new ((w.alloc (.cells v 51)).alloc (.cells #[.bool false] 4)) (.cells v 51)
  rwa[World.size_alloc,World.size_alloc]at this
 obtain⟨W0,hW0⟩: ∃W0,(((w.alloc (.cells v 51)).alloc (.cells #[.bool false] 4)).alloc (.cells v 51))=W0:=⟨_,rfl⟩
 rw[hW0]at bR bV hB0 hsz ⊢
 clear hW0
 have bV:W0.heap[w.heap.size+1+1]?=some (.cells #[.bool x0,.string x1,.bool x2,.string x3,.bool x4,.string x5,.bool x6,.string x7,.bool x8,.string x9,.bool y0,.string y1,.bool y2,.string y3,.bool y4,.string y5,.bool y6,.string y7,.bool y8,.string y9,.bool z0,.string z1,.bool z2,.string z3,.bool z4,.string z5,.bool z6,.string z7,.bool z8,.string z9] 51 (0,0)):=by rw[bV,←hv]
 refine wpIn_rangeFunc_ownH hro h1n (gf:=247) (lb:= #[.pointer (some ⟨w.heap.size+1+1,0,none⟩)]) rfl h3 (enters_of Tryz.func247 (by kernel_rfl) rfl)
  (zel enR (0,⟨_,hx⟩) (1,⟨_,hy⟩) (2,⟨_,hz⟩) F (n-1) h3 hro (by omega) (w.heap.size+1+1) w.heap.size x0 x1 x2 x3 x4 x5 x6 x7 x8 x9 y0 y1 y2 y3 y4 y5 y6 y7 y8 y9 z0 z1 z2 z3 z4 z5 z6 z7 z8 z9 W0 (by omega) bV rfl rfl rfl) belowK_t (belowK_b (by omega)) (Below.refl _ _) (fun _=>rfl)
  (fun pre W=>((∀p∈pre,p.2.1.ok=true)∧Boxed W (w.heap.size+1) 4 (.bool false))∧Below w.heap.size w W)
  (fun c pre W=>((c= .ret∧ ∃p∈pre,p.2.1.ok=false)∧Boxed W (w.heap.size+1) 4 (.bool false))∧Below w.heap.size w W)
  (OwnFrom.and (OwnFrom.and (ownFrom_pure _ _) (Own.from (boxed_own _ _ _) _)) (ownFrom_below (Nat.le_refl _) (by omega)))
  (fun c=>OwnFrom.and (OwnFrom.and (ownFrom_pure _ _) (Own.from (boxed_own _ _ _) _)) (ownFrom_below (Nat.le_refl _) (by omega)))
  ⟨⟨by simp,bR⟩,hB0⟩
  (fun x a' W=> ∃Bx,w.heap.size+1<Bx∧W.heap[Bx]?=some (.cells x.2.1.a 39 (0,0))∧a'={tmps:= #[.agg v,.pointer (some ⟨w.heap.size,0,none⟩),.pointer (some ⟨w.heap.size+1,0,none⟩),undef,.pointer (some ⟨Bx,0,none⟩),.agg v,.func (.func 247) #[] #[.pointer (some ⟨w.heap.size+1+1,0,none⟩)],.int .i64 x.1,.agg x.2.1.a,undef,undef,undef],defers:=[]})
  (fun x a' _ X Y row hs hg hr=>by obtain⟨Bx,e1,e2,e3⟩:=hs;exact⟨Bx,e1,zfp _ Bx (fun(_:Unit)=>x.2.1.a) 39 () X Y row e2 hg hr,e3⟩)
  ?assign ?body ?done ?stop
 case assign=>
  rintro l pre x W K ⟨⟨hp,bR1⟩,hB1⟩ hK
  dsimp only[enR]
  have hst:=zei x.2.1 W #[.bool false,.string ⟨#[]⟩,.bool false,.string ⟨#[]⟩,.bool false,.string ⟨#[]⟩,.bool false,.string ⟨#[]⟩,.bool false,.string ⟨#[]⟩] rfl
  gi_wp2_with (refine z5S rfl rfl rfl rfl hst ?_)
  exact hK _ _ ((KeepsOthers.alloc _ _).from _) ((Below.refl _ W).alloc hB1.size _) ⟨⟨hp,bR1.alloc _⟩,hB1.alloc hB1.size _⟩ ⟨W.heap.size,bR1.lt,World.alloc_heap_new W _,rfl⟩
 case body=>
  rintro l pre x a' W hl ⟨r,hr⟩ ⟨⟨hp,bR1⟩,hB1⟩ ⟨Bx,hBx,bX,rfl⟩ hlt
  have hld:=zhP bX
  have h1':1≤n-1-1:=by omega
  have cR: ∀W2,Below W.heap.size W W2→Boxed W2 (w.heap.size+1) 4 (.bool false):=fun W2 h=>(h.block _ bR1.lt).trans bR1
  gi_wp2_with (first|(gi_at_call 154;refine(CallsIn.inRound l (hV _ x.2 _)).mono ?_;rintro e W2 ⟨rfl,hBW⟩;have bR2:=cR _ hBW;have c2:=bR2.cell;have f2:=bR2.frozen)|refine z3k rfl rfl rfl hld ?_)
  · rename_i hk
    have hk':x.2.1.ok=false:=by simpa using hk
    exact⟨(z5X hBW _).trans ((KeepsOthers.setCell _ _ _).from _),⟨⟨rfl,x,List.mem_append.2 (.inr (by simp)),hk'⟩,bR2.set _⟩,(hB1.trans (hBW.mono hB1.size)).setCell (p:=⟨w.heap.size+1,0,none⟩) (by simp) _⟩
  · rename_i hk
    have hk':x.2.1.ok=true:=by simpa using hk
    exact⟨z5X hBW _,hBW.mono hB1.size,⟨fun p hp'=>(List.mem_append.1 hp').elim (hp p) (fun e=>by simp at e;subst e;exact hk'),bR2⟩,hB1.trans (hBW.mono hB1.size)⟩
 case done=>
  rintro D zs W hD rfl ⟨⟨hp,bR1⟩,hB1⟩ hK
  have cR:=bR1.cell
  have fR:=bR1.frozen
  gi_wp2
  have hK':=(KeepsOthers.setCell W ⟨w.heap.size+1,0,none⟩ (.bool true)).same D _ hK rfl
  refine⟨by simp,.inl ⟨_,_,rfl,run_takeDeferred hK',?_⟩⟩
  have hc5:=cell_kept (bR1.set (.bool true)).cell (grownBy_putObj' _ D (.deferred none)) (fun r e=>by cases e;exact⟨_,hK',rfl⟩)
  refine⟨.bool true,?_,?_,(hB1.setCell (p:=⟨w.heap.size+1,0,none⟩) (by simp) _).trans (belowK_b (w:=w) (Nat.le_refl _) _ D _ _ (by omega) hK' rfl rfl)⟩
  · simp[results,Tryz.f148,go_sem,hc5]
  · have q0:=hp _ (List.mem_cons_self ..)
    have q1:=hp _ (List.mem_cons_of_mem _ (List.mem_cons_self ..))
    have q2:=hp _ (List.mem_cons_of_mem _ (List.mem_cons_of_mem _ (List.mem_cons_self ..)))
    unfold ok3
    rw[q0,q1,q2];rfl
 case stop=>
  rintro D c pre W hD hpre ⟨⟨⟨rfl,x,hx,hy⟩,bR1⟩,hB1⟩ hK
  gi_wp2
  refine⟨by simp,.inl ⟨_,_,rfl,run_takeDeferred hK,?_⟩⟩
  have hc5:=cell_kept bR1.cell (grownBy_putObj' _ D (.deferred none)) (fun r e=>by cases e;exact⟨_,hK,rfl⟩)
  refine⟨.bool false,?_,?_,hB1.trans (belowK_b (w:=w) (Nat.le_refl _) W D _ _ (by omega) hK rfl rfl)⟩
  · simp[results,Tryz.f148,go_sem,hc5]
  · have hm:=hpre.subset hx
    simp only[List.mem_cons,List.not_mem_nil,or_false]at hm
    unfold ok3
    rcases hm with rfl|rfl|rfl<;>rw[hy]<;>simp
theorem zq6(x y z:RN)(h:zp2 1000000 x y z=true):PCall P 148 [z5f x y z] (.lit (.bool (ok3 x y z))):=by
 obtain⟨hx,hy,hz⟩:=z0z.1 h
 intro Im w vs hIm hvs
 obtain⟨y0,ys,e1,⟨arr,rfl,hr⟩,e2⟩:=hvs
 have e3:vs= #[.agg arr]:=by
  apply Array.ext'
  rw[e1,e2]
 subst e3
 have ha:arr.toList=(x.a.toList++(y.a.toList++z.a.toList)):=z54 hr
 obtain⟨x0,x1,x2,x3,x4,x5,x6,x7,x8,x9⟩:=x
 obtain⟨y0,y1,y2,y3,y4,y5,y6,y7,y8,y9⟩:=y
 obtain⟨z0,z1,z2,z3,z4,z5,z6,z7,z8,z9⟩:=z
 refine(callsIn_wide.1 (zmi Fence.wide 6 trivial trivial trivial trivial rfl (Nat.le_refl _) (fun m x W=>callsIn_wide.2 (PCall.num (zad x.1 x.2) W)) _ _ _ _ _ _ _ _ _ _ _ _ _ _ _ _ _ _ _ _ _ _ _ _ _ _ _ _ _ _ hx hy hz arr ha w)).mono ?_
 rintro e w' ⟨rfl,hB⟩
 exact⟨_,_,Im,rfl,rfl,rfl,Im.le_refl,(fun b cs hb=>by obtain⟨c,T,fz,k1,k2⟩:=hIm b cs hb;exact⟨c,T,fz,(hB.block b (Array.getElem?_eq_some_iff.1 k1).1).trans k1,k2⟩),hB,fun b hb=> .inl hb⟩
end Go.Fw
namespace Go.Fw
set_option maxRecDepth 100000
theorem zek(v:VN)(h:v.raw 1000000=true):PCall P 148 [v.c] (.lit (.bool v.ok)):=zq6 v.x v.y v.z h
theorem zbV(x y z:K)(hx:x.sz≤1000000)(hy:y.sz≤1000000)(hz:z.sz≤1000000):PCall P 148 [z7s x y z] (.lit (.bool true)):=by
 have h:=zek (ofV (some ⟨x,y,z⟩)) (z7i (by show max x.sz (max y.sz z.sz)≤1000000;omega))
 rw[zas (zdm (some ⟨x,y,z⟩))]at h
 exact h
end Go.Fw
