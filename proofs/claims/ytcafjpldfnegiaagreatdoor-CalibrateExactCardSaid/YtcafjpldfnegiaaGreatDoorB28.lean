/- A part of the proof that the law returns true for every input: an executor for the model's code, and what functions of the program compute. -/
import Derived.Test.YtcafjpldfnegiaaGreatDoorB11
import Derived.Test.YtcafjpldfnegiaaGreatDoorB15
import Derived.Test.YtcafjpldfnegiaaGreatDoorB22
import Derived.Test.YtcafjpldfnegiaaGreatDoorB27
import Derived.KernelRfl
open Go IntKind
namespace Go.Fw
set_option maxRecDepth 100000
def gcO(W:Nat→Int)(g:Int)(i:Nat):St:=⟨J3 28 [(1,.ptr 0 0),(3,.cv (j7 g)),(4,.cv (j7 (i:Int)))],[some (own (i5 W))]⟩
def gcT(W:Nat→Int)(a b i:Int):St:=⟨J3 28 [(1,.ptr 0 0),(4,.cv (j7 i)),(5,.cv (j7 a)),(6,.cv (j7 b))],[some (own (i5 W))]⟩
theorem zol (W : Nat → Int) (g : Int) : ∀ i, i < 5 → (z38 P 192 (loopHead P 192 0) (gcO W g i) [(15, .stop)] false 100000).pick [1, 4, 5, 6] [0] =
    some (loopHead P 192 1,gcT W g (if i64.wrap (0-W i)>W i then i64.wrap (0-W i)else W i) (i:Int),[(0:Int)≤(i:Int)∧(i:Int)<5,(0:Int)≤(i:Int)∧(i:Int)<5,CvL (own (i5 W))]):=by
 intro i hi
 have:i=0∨i=1∨i=2∨i=3∨i=4:=by omega
 rcases this with rfl|rfl|rfl|rfl|rfl<;>(show _=_;kernel_rfl)
theorem zoF(W:Nat→Int)(g:Int):z38 P 192 (loopHead P 192 0) (gcO W g 5) [] false 100000= .ret (j7 g) []:=by
 show _=_
 kernel_rfl
theorem zou(W:Nat→Int):(zaJ P 192 [.agg (i5 W)] [(4,.stop)] false 100000).pick [1,3,4] [0]=some (loopHead P 192 0,gcO W 0 0,[CvL (own (i5 W))]):=by
 show _=_
 kernel_rfl
theorem zmx {R : Goal} (hn : R.n = 0) (W : Nat → Int) (i : Int) (hi : 0 ≤ i ∧ i < 5) (g : Nat) (hR : Ok P 192 (loopHead P 192 0) ⟨J3 28 [(1, .ptr 0 0), (3, .cv (j7 (g : Int))), (4, .cv (j7 (i + 1)))], [some (own (i5 W))]⟩ R) :
    ∀(m:Nat) (a b:Nat),b≤m→a<2^63→b<2^63→Nat.gcd a b=g→Ok P 192 (loopHead P 192 1) (gcT W (a:Int) (b:Int) i) R
 |m,a,0,_,ha,_,hg=>by
  rw[Nat.gcd_zero_right]at hg
  subst hg
  refine zla W _ _ i rfl (by rw[hn];rfl) ?_
  rw[w64 (by omega)]
  exact hR
 |0,a,b+1,h,_,_,_=>by omega
 |m+1,a,b+1,hm,ha,hb,hg=>by
  have hlt:a%(b+1)<b+1:=Nat.mod_lt a (Nat.succ_pos b)
  refine zmz W _ _ i (by simp;omega) (by omega) (by rw[hn];rfl) ?_
  rw[Int.tmod_eq_emod_of_nonneg (by omega),show((a:Int)%((b+1:Nat):Int))=((a%(b+1):Nat):Int) by simp]
  refine zmx hn W i hi g hR m (b+1) (a%(b+1)) (by omega) hb (by omega) ?_
  rw[←hg,Nat.gcd_comm a (b+1),Nat.gcd_comm (b+1) (a%(b+1)),←Nat.gcd_rec]
theorem zij(z:Int)(h:z.natAbs<2^63):(if i64.wrap (0-z)>z then i64.wrap (0-z)else z)=(z.natAbs:Int):=by
 rw[w64 (by omega)]
 split<;>omega
def zaQ(W:Nat→Int):Nat→Nat
 |0=>0
 |n+1=>Nat.gcd (zaQ W n) (W n).natAbs
theorem zcN(W:Nat→Int)(h: ∀i,i<5→(W i).natAbs<2^63): ∀n,n≤5→zaQ W n<2^63
 |0,_=>(by decide:0<2^63)
 |n+1,hn=>by
  have ih:=zcN W h n (by omega)
  have hw:=h n (by omega)
  unfold zaQ
  rcases Nat.eq_zero_or_pos (W n).natAbs with h0|h0
  · rw[h0,Nat.gcd_zero_right];exact ih
  · exact Nat.lt_of_le_of_lt (Nat.gcd_le_right _ h0) hw
theorem zf8(W:Nat→Int)(h: ∀i,i<5→(W i).natAbs<2^63):PCall P 192 [.agg (i5 W)] (j7 (zaQ W 5:Nat)):=by
 refine V0 (z7p (zou W) rfl (.cons (Z6 _) .nil) ?_)
 have hn:(Goal.of (fun x=>x=j7 (zaQ W 5:Nat))).n=0:=rfl
 have step: ∀i,i<5→Ok P 192 (loopHead P 192 0) (gcO W (zaQ W (i+1):Nat) (i+1)) (Goal.of (fun x=>x=j7 (zaQ W 5:Nat)))→Ok P 192 (loopHead P 192 0) (gcO W (zaQ W i:Nat) i) (Goal.of (fun x=>x=j7 (zaQ W 5:Nat))):=by
  intro i hi hk
  refine okS (zol W _ i hi) rfl (.cons (by omega) (.cons (by omega) (.cons (Z6 _) .nil))) rfl ?_
  rw[zij _ (h i hi)]
  exact zmx hn W i (by omega) _ hk _ _ _ (Nat.le_refl _) (zcN W h i (by omega)) (h i hi) rfl
 refine step 0 (by decide) (step 1 (by decide) (step 2 (by decide) (step 3 (by decide) (step 4 (by decide) ?_))))
 exact okR (zoF W _) .nil rfl
theorem znm(W:Nat→Int):zaQ W 5=Y7 (W 0) (W 1) (W 2) (W 3) (W 4):=by
 simp only[zaQ,Y7,Nat.gcd_zero_left]
 rw[Nat.gcd_comm (Nat.gcd _ _) (W 4).natAbs,Nat.gcd_assoc,Nat.gcd_assoc,Nat.gcd_assoc,Nat.gcd_assoc,Nat.gcd_assoc]
def kZ(x:K):Nat→Int
 |0=>x.c0
 |1=>x.c1
 |2=>x.c2
 |3=>x.c3
 |_=>x.d
def kB(x:K)(i:Nat):Bool:=decide (kZ x i<0)
def kS(x:K)(i:Nat):ByteArray:=bytesOf (kZ x i).natAbs
theorem ziO(z:Int):zOf (decide (z<0)) (bytesOf z.natAbs)=z:=by
 unfold zOf
 rw[U6]
 by_cases h:z<0
 · rw[decide_eq_true h];simp;omega
 · rw[decide_eq_false h];simp;omega
theorem z3S(z:Int):J1 (decide (z<0)) (bytesOf z.natAbs)=true:=by
 rw[J1]
 by_cases h:z=0
 · subst h;rfl
 · have:(bytesOf z.natAbs).size≠0:=by rw[Ne,V5];omega
   rw[if_neg this]
   have:=z1R (n:=z.natAbs) (by omega)
   rw[decide_eq_true this]
def Sm3(x:K):Prop:= ∀i,i<5→(kZ x i).natAbs<256^3
theorem Sm3.ok{x:K}(h:Sm3 x): ∀i,i<5→z5G (kB x) (kS x) i:=fun i hi=>⟨V6.2 (h i hi),z3S _⟩
theorem zkn(n:Int)(a:(-9223372036854775808:Int)≤n∧n≤9223372036854775807)(d:(-9223372036854775808:Int)≤1∧(1:Int)≤9223372036854775807):PCall P 40 [j7 n] (.agg [.lit (.bool (decide (n<0))),.lit (.string (bytesOf n.natAbs)),.lit (.bool false),.lit (.string {data:= #[]}),.lit (.bool false),.lit (.string {data:= #[]}),.lit (.bool false),.lit (.string {data:= #[]}),.lit (.bool false),.lit (.string (bytesOf 1))]):=
 j5 (.r 2 (z0J n a) (.r 4 (z0J (1:Int) d) (.c (lq 10 10) .nil))) (by kernel_rfl)
theorem Sm3.lt{x:K}(h:Sm3 x): ∀i,i<5→(kZ x i).natAbs<2^63:=fun i hi=>Nat.lt_trans (h i hi) (by decide)
theorem z4R(n:Int)(h: -9223372036854775808≤n∧n≤9223372036854775807):PCall P 40 [j7 n] (Y6 (K.ofInt n)):=zkn n h (by decide)
def M5(a b c d e:Int):Prop:=a.natAbs<2^63∧b.natAbs<2^63∧c.natAbs<2^63∧d.natAbs<2^63∧e.natAbs<2^63
def f5(a b c d e:Int):Nat→Int
 |0=>a
 |1=>b
 |2=>c
 |3=>d
 |_=>e
theorem M5.f5{a b c d e:Int}(h:M5 a b c d e): ∀i,i<5→(f5 a b c d e i).natAbs<2^63:=by
 intro i hi
 have:i=0∨i=1∨i=2∨i=3∨i=4:=by omega
 rcases this with rfl|rfl|rfl|rfl|rfl
 · exact h.1
 · exact h.2.1
 · exact h.2.2.1
 · exact h.2.2.2.1
 · exact h.2.2.2.2
theorem Sm3.neg{x:K}(h:Sm3 x):Sm3 (-x):=by
 intro i hi
 have:i=0∨i=1∨i=2∨i=3∨i=4:=by omega
 rcases this with rfl|rfl|rfl|rfl|rfl
 · show(-x.c0).natAbs<_;rw[Int.natAbs_neg];exact h 0 (by decide)
 · show(-x.c1).natAbs<_;rw[Int.natAbs_neg];exact h 1 (by decide)
 · show(-x.c2).natAbs<_;rw[Int.natAbs_neg];exact h 2 (by decide)
 · show(-x.c3).natAbs<_;rw[Int.natAbs_neg];exact h 3 (by decide)
 · exact h 4 (by decide)
theorem zfk(n:Nat):J7 (n:Int)= .agg [.lit (.bool false),X2 (bytesOf n)]:=by
 rw[J7,Int.natAbs_natCast,decide_eq_false (by omega)]
theorem z62(n:Nat)(h:n<256^7):PCall P 194 [.agg [.lit (.bool false),X2 (bytesOf n)]] (.tup [j7 (n:Int),.lit (.bool true)]):=by
 have:=z1G (n:Int) (by rwa[Int.natAbs_natCast])
 rwa[zfk]at this
theorem zkr(a b:Int)(h1:decide ((↑(bytesOf a.natAbs).size:Int)≤7)=true)(h2:decide ((↑(bytesOf b.natAbs).size:Int)≤7)=true)(c:a.natAbs<256^7)(d:b.natAbs<256^7){R:CV→Prop}(hR:Ok P 184 (loopHead P 184 0) ⟨J3 111 [(4,.ptr 0 0),(5,.cv (.lit (.int .i64 (↑a.natAbs:Int)))),(7,.cv (.lit (.int .i64 (↑b.natAbs:Int))))],[some [.cv (.lit (.bool false)),.cv (.lit (.string {data:= #[]}))]]⟩ (.of R)):W5 P 184 [J7 a,J7 b] R:=
 Y2 (keep:=[4,5,7]) (σ:=[2]) (.r 4 (J8 a) (.r 8 (J8 b) (.b 16 h1 (.b 22 h2 (.r 26 (z62 a.natAbs c) (.r 35 (z62 b.natAbs d) (.o 41 .stop .nil))))))) (by kernel_rfl) rfl hR (.cons (by simp[CvL]) .nil)
theorem zkY(n m:Int)(h1:(m != 0)=true)(o1:m≠0){R:Goal}(hn:j9 R.n [0]=true)(hR:Ok P 184 (loopHead P 184 0) ⟨J3 111 [(4,.ptr 0 0),(5,.cv (.lit (.int .i64 m))),(7,.cv (.lit (.int .i64 (n.tmod m))))],[some [.cv (.lit (.bool false)),.cv (.lit (.string {data:= #[]}))]]⟩ R):Ok P 184 (loopHead P 184 0) ({tm:=J3 111 [(4,.ptr 0 0),(5,.cv (j7 n)),(7,.cv (j7 m))],hp:=[some [.cv (.lit (.bool false)),.cv (X2 {data:= #[]})]]}) R:=
 z16 (keep:=[4,5,7]) (σ:=[0]) (.b 3 h1 (.c o1 (.o 10 .stop .nil))) (by kernel_rfl) rfl hn hR (.cons (by simp[CvL]) .nil)
theorem zkL(n m:Int)(h1:(m != 0)=false)(a:(-9223372036854775808:Int)≤n∧n≤9223372036854775807){R:Goal}(hR:R.c (.agg [.lit (.bool (decide (n<0))),.lit (.string (bytesOf n.natAbs))])):Ok P 184 (loopHead P 184 0) ({tm:=J3 111 [(4,.ptr 0 0),(5,.cv (j7 n)),(7,.cv (j7 m))],hp:=[some [.cv (.lit (.bool false)),.cv (X2 {data:= #[]})]]}) R:=
 okT (.b 3 h1 (.r 5 (z0J n a) (.c (show 2≤2 from by decide) .nil))) (by kernel_rfl) hR
theorem zbs {R : Goal} (hn : R.n = 0) (g : Nat) (hR : R.c (J7 (g : Int))) : ∀ (m a b : Nat), b ≤ m → a < 2 ^ 63 → b < 2 ^ 63 → Nat.gcd a b = g →
    Ok P 184 (loopHead P 184 0) ⟨J3 111 [(4,.ptr 0 0),(5,.cv (j7 (a:Int))),(7,.cv (j7 (b:Int)))],[some [.cv (.lit (.bool false)),.cv (X2 ⟨#[]⟩)]]⟩ R
 |m,a,0,_,ha,_,hg=>by
  rw[Nat.gcd_zero_right]at hg
  subst hg
  exact zkL _ _ rfl (by omega) hR
 |0,a,b+1,h,_,_,_=>by omega
 |m+1,a,b+1,hm,ha,hb,hg=>by
  have hlt:a%(b+1)<b+1:=Nat.mod_lt a (Nat.succ_pos b)
  refine zkY _ _ (by simp;omega) (by omega) (by rw[hn];rfl) ?_
  rw[Int.tmod_eq_emod_of_nonneg (by omega),show((a:Int)%((b+1:Nat):Int))=((a%(b+1):Nat):Int) by simp]
  refine zbs hn g hR m (b+1) (a%(b+1)) (by omega) hb (by omega) ?_
  rw[←hg,Nat.gcd_comm a (b+1),Nat.gcd_comm (b+1) (a%(b+1)),←Nat.gcd_rec]
theorem zlm(a b:Int)(ha:a.natAbs<256^7)(hb:b.natAbs<256^7):PCall P 184 [J7 a,J7 b] (J7 (Nat.gcd a.natAbs b.natAbs:Nat)):=by
 have h1:(bytesOf a.natAbs).size≤7:=V6.2 ha
 have h2:(bytesOf b.natAbs).size≤7:=V6.2 hb
 exact V0 (zkr a b (decide_eq_true (by omega)) (decide_eq_true (by omega)) ha hb (zbs rfl _ rfl _ _ _ (Nat.le_refl _) (Nat.lt_trans ha (by decide)) (Nat.lt_trans hb (by decide)) rfl))
def zoa(a b:Int):Prop:=PCall P 184 [J7 a,J7 b] (J7 (Nat.gcd a.natAbs b.natAbs:Nat))
theorem zhx(n m:Nat)(xs ys:List Nat)(h1:((n:Int) != (m:Int))=true)(h2:decide ((n:Int)<m)=true):PCall P 198 [.lst n (j3 xs),.lst m (j3 ys)] (.lit (.int .i64 (-1:Int))):=
 j5 (.b 6 h1 (.b 12 h2 .nil)) (by kernel_rfl)
theorem zi5(n m:Nat)(xs ys:List Nat)(h1:((n:Int) != (m:Int))=true)(h2:decide ((n:Int)<m)=false):PCall P 198 [.lst n (j3 xs),.lst m (j3 ys)] (.lit (.int .i64 1)):=
 j5 (.b 6 h1 (.b 12 h2 .nil)) (by kernel_rfl)
theorem zit(n m:Nat)(xs ys:List Nat)(h1:((n:Int) != (m:Int))=false){R:CV→Prop}(hR:Ok P 198 (loopHead P 198 0) ⟨J3 41 [(0,.cv (.lst n (j3 xs))),(1,.cv (.lst m (j3 ys))),(5,.cv (.lit (.int .i64 (i64.wrap ((n:Int)-1)))))],[]⟩ (.of R)):W5 P 198 [.lst n (j3 xs),.lst m (j3 ys)] R:=
 Y2 (keep:=[0,1,5]) (σ:=[]) (.b 6 h1 (.o 11 .stop .nil)) (by kernel_rfl) rfl hR .nil
theorem zeS(n:Nat)(i:Int)(xs ys:List Nat)(h1:decide (i≥0)=true)(h2:((↑(xs.getD (i.toNat*1) 0):Int) != (↑(ys.getD (i.toNat*1) 0):Int))=true)(h3:decide ((↑(xs.getD (i.toNat*1) 0):Int)<(↑(ys.getD (i.toNat*1) 0):Int))=true)(o1:(0:Int)≤i∧i<(n:Int))(o2:(j3 xs)[i.toNat*1]?=some (.lit (.int .i64 ↑(xs.getD (i.toNat*1) 0))))(o4:(0:Int)≤i∧i<(n:Int))(o5:(j3 ys)[i.toNat*1]?=some (.lit (.int .i64 ↑(ys.getD (i.toNat*1) 0))))(o8:(0:Int)≤i∧i<(n:Int))(o9:(j3 xs)[i.toNat*1]?=some (.lit (.int .i64 ↑(xs.getD (i.toNat*1) 0))))(o11:(0:Int)≤i∧i<(n:Int))(o12:(j3 ys)[i.toNat*1]?=some (.lit (.int .i64 ↑(ys.getD (i.toNat*1) 0)))){R:Goal}(hR:R.c (.lit (.int .i64 (-1:Int)))):Ok P 198 (loopHead P 198 0) ⟨J3 41 [(0,.cv (.lst n (j3 xs))),(1,.cv (.lst n (j3 ys))),(5,.cv (j7 i))],[]⟩ R:=
 okT (.b 3 h1 (.c o1 (.l 7 o2 (.c (eqn 1) (.c o4 (.l 11 o5 (.c (eqn 1) (.b 13 h2 (.c o8 (.l 17 o9 (.c (eqn 1) (.c o11 (.l 21 o12 (.c (eqn 1) (.b 23 h3 .nil))))))))))))))) (by kernel_rfl) hR
theorem zfh(n:Nat)(i:Int)(xs ys:List Nat)(h1:decide (i≥0)=true)(h2:((↑(xs.getD (i.toNat*1) 0):Int) != (↑(ys.getD (i.toNat*1) 0):Int))=true)(h3:decide ((↑(xs.getD (i.toNat*1) 0):Int)<(↑(ys.getD (i.toNat*1) 0):Int))=false)(o1:(0:Int)≤i∧i<(n:Int))(o2:(j3 xs)[i.toNat*1]?=some (.lit (.int .i64 ↑(xs.getD (i.toNat*1) 0))))(o4:(0:Int)≤i∧i<(n:Int))(o5:(j3 ys)[i.toNat*1]?=some (.lit (.int .i64 ↑(ys.getD (i.toNat*1) 0))))(o8:(0:Int)≤i∧i<(n:Int))(o9:(j3 xs)[i.toNat*1]?=some (.lit (.int .i64 ↑(xs.getD (i.toNat*1) 0))))(o11:(0:Int)≤i∧i<(n:Int))(o12:(j3 ys)[i.toNat*1]?=some (.lit (.int .i64 ↑(ys.getD (i.toNat*1) 0)))){R:Goal}(hR:R.c (.lit (.int .i64 1))):Ok P 198 (loopHead P 198 0) ⟨J3 41 [(0,.cv (.lst n (j3 xs))),(1,.cv (.lst n (j3 ys))),(5,.cv (j7 i))],[]⟩ R:=
 okT (.b 3 h1 (.c o1 (.l 7 o2 (.c (eqn 1) (.c o4 (.l 11 o5 (.c (eqn 1) (.b 13 h2 (.c o8 (.l 17 o9 (.c (eqn 1) (.c o11 (.l 21 o12 (.c (eqn 1) (.b 23 h3 .nil))))))))))))))) (by kernel_rfl) hR
theorem zds(n:Nat)(i:Int)(xs ys:List Nat)(h1:decide (i≥0)=true)(h2:((↑(xs.getD (i.toNat*1) 0):Int) != (↑(ys.getD (i.toNat*1) 0):Int))=false)(o1:(0:Int)≤i∧i<(n:Int))(o2:(j3 xs)[i.toNat*1]?=some (.lit (.int .i64 ↑(xs.getD (i.toNat*1) 0))))(o4:(0:Int)≤i∧i<(n:Int))(o5:(j3 ys)[i.toNat*1]?=some (.lit (.int .i64 ↑(ys.getD (i.toNat*1) 0)))){R:Goal}(hn:j9 R.n []=true)(hR:Ok P 198 (loopHead P 198 0) ⟨J3 41 [(0,.cv (.lst n (j3 xs))),(1,.cv (.lst n (j3 ys))),(5,.cv (.lit (.int .i64 (i64.wrap (i-1)))))],[]⟩ R):Ok P 198 (loopHead P 198 0) ⟨J3 41 [(0,.cv (.lst n (j3 xs))),(1,.cv (.lst n (j3 ys))),(5,.cv (j7 i))],[]⟩ R:=
 z16 (keep:=[0,1,5]) (σ:=[]) (.b 3 h1 (.c o1 (.l 7 o2 (.c (eqn 1) (.c o4 (.l 11 o5 (.c (eqn 1) (.b 13 h2 (.o 17 .stop .nil))))))))) (by kernel_rfl) rfl hn hR .nil
theorem zeo(n:Nat)(i:Int)(xs ys:List Nat)(h1:decide (i≥0)=false){R:Goal}(hR:R.c (.lit (.int .i64 0))):Ok P 198 (loopHead P 198 0) ⟨J3 41 [(0,.cv (.lst n (j3 xs))),(1,.cv (.lst n (j3 ys))),(5,.cv (j7 i))],[]⟩ R:=
 okT (.b 3 h1 .nil) (by kernel_rfl) hR
theorem zkc(n m:Nat)(xs ys:List Nat)(h1:decide ((n:Int)<m)=true)(o1:(0:Int)≤i64.wrap ((m:Int)+1)∧i64.wrap ((m:Int)+1)≤i64.wrap ((m:Int)+1)∧(8:Int)*i64.wrap ((m:Int)+1)≤140737488355328∧i64.wrap ((m:Int)+1)≤4611686018427387904∧1=1)(o2:CvL (List.replicate ((i64.wrap ((m:Int)+1)).toNat*1) (.cv (.lit (.int .i64 0))))){R:CV→Prop}(hR:Ok P 197 (loopHead P 197 0) ⟨J3 55 [(0,.cv (.lst m (j3 ys))),(1,.cv (.lst n (j3 xs))),(5,.sl 0 0 (i64.wrap ((m:Int)+1)).toNat 1),(6,.cv (.lit (.int .i64 0))),(7,.cv (.lit (.int .i64 0)))],[some (List.replicate ((i64.wrap ((m:Int)+1)).toNat*1) (.cv (.lit (.int .i64 0))))]⟩ (.of R)):W5 P 197 [.lst n (j3 xs),.lst m (j3 ys)] R:=
 Y2 (keep:=[0,1,5,6,7]) (σ:=[0]) (.b 6 h1 (.c o1 (.o 18 .stop .nil))) (by kernel_rfl) rfl hR (.cons o2 .nil)
theorem zlQ(n m:Nat)(xs ys:List Nat)(h1:decide ((n:Int)<m)=false)(o1:(0:Int)≤i64.wrap ((n:Int)+1)∧i64.wrap ((n:Int)+1)≤i64.wrap ((n:Int)+1)∧(8:Int)*i64.wrap ((n:Int)+1)≤140737488355328∧i64.wrap ((n:Int)+1)≤4611686018427387904∧1=1)(o2:CvL (List.replicate ((i64.wrap ((n:Int)+1)).toNat*1) (.cv (.lit (.int .i64 0))))){R:CV→Prop}(hR:Ok P 197 (loopHead P 197 0) ⟨J3 55 [(0,.cv (.lst n (j3 xs))),(1,.cv (.lst m (j3 ys))),(5,.sl 0 0 (i64.wrap ((n:Int)+1)).toNat 1),(6,.cv (.lit (.int .i64 0))),(7,.cv (.lit (.int .i64 0)))],[some (List.replicate ((i64.wrap ((n:Int)+1)).toNat*1) (.cv (.lit (.int .i64 0))))]⟩ (.of R)):W5 P 197 [.lst n (j3 xs),.lst m (j3 ys)] R:=
 Y2 (keep:=[0,1,5,6,7]) (σ:=[0]) (.b 6 h1 (.c o1 (.o 14 .stop .nil))) (by kernel_rfl) rfl hR (.cons o2 .nil)
theorem zjk(n m o c i:Nat)(xs ys zs:List Nat)(h1:decide ((i:Int)<n)=true)(h2:decide ((i:Int)<m)=true)(o1:(0:Int)≤i∧(i:Int)<n)(o2:(j3 xs)[(i:Int).toNat*1]?=some (.lit (.int .i64 ↑(xs.getD ((i:Int).toNat*1) 0))))(o5:(0:Int)≤i∧(i:Int)<m)(o6:(j3 ys)[(i:Int).toNat*1]?=some (.lit (.int .i64 ↑(ys.getD ((i:Int).toNat*1) 0))))(o9:(0:Int)≤i∧(i:Int)<o)(o10:0+(i:Int).toNat*1+1≤(own (j3 zs)).length)(o12:CvL (j4 (own (j3 zs)) (0+(i:Int).toNat*1) [.cv (.lit (.int .i64 ((i64.wrap (i64.wrap ((c:Int)+(↑(xs.getD ((i:Int).toNat*1) 0):Int))+(↑(ys.getD ((i:Int).toNat*1) 0):Int))).tmod 16777216)))])){R:Goal}(hn:j9 R.n [0]=true)(hR:Ok P 197 (loopHead P 197 0) ⟨J3 55 [(0,.cv (.lst n (j3 xs))),(1,.cv (.lst m (j3 ys))),(5,.sl 0 0 o 1),(6,.cv (.lit (.int .i64 (i64.wrap ((i64.wrap (i64.wrap ((c:Int)+(↑(xs.getD ((i:Int).toNat*1) 0):Int))+(↑(ys.getD ((i:Int).toNat*1) 0):Int))).tdiv 16777216))))),(7,.cv (.lit (.int .i64 (i64.wrap ((i:Int)+1)))))],[some (j4 (own (j3 zs)) (0+(i:Int).toNat*1) [.cv (.lit (.int .i64 ((i64.wrap (i64.wrap ((c:Int)+(↑(xs.getD ((i:Int).toNat*1) 0):Int))+(↑(ys.getD ((i:Int).toNat*1) 0):Int))).tmod 16777216)))])]⟩ R):Ok P 197 (loopHead P 197 0) ⟨J3 55 [(0,.cv (.lst n (j3 xs))),(1,.cv (.lst m (j3 ys))),(5,.sl 0 0 o 1),(6,.cv (j7 (c:Int))),(7,.cv (j7 (i:Int)))],[some (own (j3 zs))]⟩ R:=
 z16 (keep:=[0,1,5,6,7]) (σ:=[0]) (.b 5 h1 (.c o1 (.l 10 o2 (.c (eqn 1) (.b 17 h2 (.c o5 (.l 22 o6 (.c (eqn 1) (.c (nz 16777216) (.c o9 (.c o10 (.c (nz 16777216) (.o 37 .stop .nil))))))))))))) (by kernel_rfl) rfl hn hR (.cons o12 .nil)
theorem zgX(n m o c i:Nat)(xs ys zs:List Nat)(h1:decide ((i:Int)<n)=true)(h2:decide ((i:Int)<m)=false)(o1:(0:Int)≤i∧(i:Int)<n)(o2:(j3 xs)[(i:Int).toNat*1]?=some (.lit (.int .i64 ↑(xs.getD ((i:Int).toNat*1) 0))))(o6:(0:Int)≤i∧(i:Int)<o)(o7:0+(i:Int).toNat*1+1≤(own (j3 zs)).length)(o9:CvL (j4 (own (j3 zs)) (0+(i:Int).toNat*1) [.cv (.lit (.int .i64 ((i64.wrap ((c:Int)+(↑(xs.getD ((i:Int).toNat*1) 0):Int))).tmod 16777216)))])){R:Goal}(hn:j9 R.n [0]=true)(hR:Ok P 197 (loopHead P 197 0) ⟨J3 55 [(0,.cv (.lst n (j3 xs))),(1,.cv (.lst m (j3 ys))),(5,.sl 0 0 o 1),(6,.cv (.lit (.int .i64 (i64.wrap ((i64.wrap ((c:Int)+(↑(xs.getD ((i:Int).toNat*1) 0):Int))).tdiv 16777216))))),(7,.cv (.lit (.int .i64 (i64.wrap ((i:Int)+1)))))],[some (j4 (own (j3 zs)) (0+(i:Int).toNat*1) [.cv (.lit (.int .i64 ((i64.wrap ((c:Int)+(↑(xs.getD ((i:Int).toNat*1) 0):Int))).tmod 16777216)))])]⟩ R):Ok P 197 (loopHead P 197 0) ⟨J3 55 [(0,.cv (.lst n (j3 xs))),(1,.cv (.lst m (j3 ys))),(5,.sl 0 0 o 1),(6,.cv (j7 (c:Int))),(7,.cv (j7 (i:Int)))],[some (own (j3 zs))]⟩ R:=
 z16 (keep:=[0,1,5,6,7]) (σ:=[0]) (.b 5 h1 (.c o1 (.l 10 o2 (.c (eqn 1) (.b 17 h2 (.c (nz 16777216) (.c o6 (.c o7 (.c (nz 16777216) (.o 30 .stop .nil)))))))))) (by kernel_rfl) rfl hn hR (.cons o9 .nil)
theorem zgm(n m o c i:Nat)(xs ys zs:List Nat)(h1:decide ((i:Int)<n)=false)(a:o=(zs.set (0+(n:Int).toNat*1) c).length)(d:Dig 16777216 (zs.set (0+(n:Int).toNat*1) c))(e:(zs.set (0+(n:Int).toNat*1) c).length<2^62)(o1:(0:Int)≤n∧(n:Int)<o)(o2:0+(n:Int).toNat*1+1≤(own (j3 zs)).length)(o4:List.take (o*1) (List.drop 0 (j4 (own (j3 zs)) (0+(n:Int).toNat*1) [.cv (.lit (.int .i64 (c:Int)))]))=List.map MV.cv (j3 (zs.set (0+(n:Int).toNat*1) c))){R:Goal}(hR:R.c (.lst (dig 16777216 (val 16777216 (zs.set (0+(n:Int).toNat*1) c))).length (j3 (dig 16777216 (val 16777216 (zs.set (0+(n:Int).toNat*1) c)))))):Ok P 197 (loopHead P 197 0) ⟨J3 55 [(0,.cv (.lst n (j3 xs))),(1,.cv (.lst m (j3 ys))),(5,.sl 0 0 o 1),(6,.cv (j7 (c:Int))),(7,.cv (j7 (i:Int)))],[some (own (j3 zs))]⟩ R:=
 okT (.b 5 h1 (.c o1 (.c o2 (.rs 13 [j3 (zs.set (0+(n:Int).toNat*1) c)] (z3v o (zs.set (0+(n:Int).toNat*1) c) a d e) (.c o4 .nil))))) (by kernel_rfl) hR
def z1W(a b:Nat):Int:=if a<b then-1 else if a=b then 0 else 1
theorem z1e{x y:Nat}(h:(dig B24 x).length<(dig B24 y).length):x<y:=by
 rcases Nat.lt_or_ge x y with h'|h'
 · exact h'
 · have:=Z5 (by decide:2≤B24) (n:=y) (k:=(dig B24 x).length) (Nat.lt_of_le_of_lt h' (Q2 (by decide) x))
   omega
theorem z8M {R : Goal} (hn : j9 R.n [] = true) (xs ys : List Nat) (hl : xs.length = ys.length) (hlen : xs.length < 2 ^ 62) (hx : Dig B24 xs) (hy : Dig B24 ys) (hR : R.c (j7 (z1W (val B24 xs) (val B24 ys)))) :
    ∀k:Nat,k≤xs.length→xs.drop k=ys.drop k→
     Ok P 198 (loopHead P 198 0) ⟨J3 41 [(0,.cv (.lst xs.length (j3 xs))),(1,.cv (.lst xs.length (j3 ys))),(5,.cv (j7 ((k:Int)-1)))],[]⟩ R:=by
 intro k
 induction k with
 |zero=>
  intro _ hd
  simp only[List.drop_zero]at hd
  refine zeo _ _ _ _ (by simp) ?_
  rw[hd,z1W,if_neg (Nat.lt_irrefl _),if_pos rfl]at hR
  exact hR
 |succ k ih=>
  intro hk hd
  have e0:((k+1:Nat):Int)-1=(k:Int):=by omega
  have e1:(k:Int).toNat*1=k:=by omega
  have gx:=W7 (xs:=xs) (i:=(k:Int).toNat*1) (by omega)
  have gy:=W7 (xs:=ys) (i:=(k:Int).toNat*1) (by omega)
  rw[e0]
  by_cases h1:xs.getD k 0<ys.getD k 0
  · have:=z0K hx (by decide) (by omega) hl hd h1
    rw[z1W,if_pos this]at hR
    exact zeS _ _ _ _ (by simp) (by rw[e1];exact bne_iff_ne.2 (by omega)) (by rw[e1];first|exact decide_eq_true (by omega)|exact decide_eq_false (by omega)) (by omega) gx (by omega) gy (by omega) gx (by omega) gy hR
  · by_cases h2:ys.getD k 0<xs.getD k 0
    · have:=z0K hy (by decide) (by omega) hl.symm hd.symm h2
      rw[z1W,if_neg (by omega),if_neg (by omega)]at hR
      exact zfh _ _ _ _ (by simp) (by rw[e1];exact bne_iff_ne.2 (by omega)) (by rw[e1];first|exact decide_eq_true (by omega)|exact decide_eq_false (by omega)) (by omega) gx (by omega) gy (by omega) gx (by omega) gy hR
    · refine zds _ _ _ _ (by simp) (by rw[e1];exact bne_eq_false_iff_eq.2 (by omega)) (by omega) gx (by omega) gy hn ?_
      rw[w64 (by omega)]
      refine ih (by omega) ?_
      have a1:k<xs.length:=by omega
      have a2:k<ys.length:=by omega
      rw[List.drop_eq_getElem_cons a1,List.drop_eq_getElem_cons a2,hd]
      have:xs.getD k 0=ys.getD k 0:=by omega
      simp only[List.getD_eq_getElem?_getD,List.getElem?_eq_getElem a1,List.getElem?_eq_getElem a2,Option.getD_some]at this
      rw[this]
theorem z4L(a b:Nat)(ha:(dig B24 a).length<2^60)(_hb:(dig B24 b).length<2^60):PCall P 198 [z4d a,z4d b] (j7 (z1W a b)):=by
 by_cases h:(dig B24 a).length=(dig B24 b).length
 · refine V0 (zit _ _ _ _ (by simp[h]) ?_)
   rw[w64 (by omega),←h]
   refine z8M (R:= .of _) rfl _ _ h (by omega) (W1 (by decide) _) (W1 (by decide) _) ?_ _ (Nat.le_refl _) (by rw[List.drop_length,h,List.drop_length])
   rw[Q5 (by decide),Q5 (by decide)]
   rfl
 · by_cases h1:(dig B24 a).length<(dig B24 b).length
   · refine(zhx _ _ _ _ (by simp;omega) (decide_eq_true (by omega))).eq ?_
     rw[z1W,if_pos (z1e h1)]
   · refine(zi5 _ _ _ _ (by simp;omega) (decide_eq_false (by omega))).eq ?_
     have:=z1e (x:=b) (y:=a) (by omega)
     rw[z1W,if_neg (by omega),if_neg (by omega)]
theorem z6B{s:Nat}(h:s<2^62):i64.wrap (s:Int)=(s:Int)∧(s:Int).tmod 16777216=((s%B24:Nat):Int)∧i64.wrap ((s:Int).tdiv 16777216)=((s/B24:Nat):Int):=by
 refine⟨w64 (by omega),?_,?_⟩
 · rw[Int.tmod_eq_emod_of_nonneg (by omega)];simp only[B24];omega
 · rw[Int.tdiv_eq_ediv_of_nonneg (by omega),w64 (by omega)];simp only[B24];omega
theorem zb1 {R : Goal} (hn : j9 R.n [0] = true) (xs ys : List Nat) (hle : ys.length ≤ xs.length) (hlen : xs.length < 2 ^ 40) (hx : Dig B24 xs) (hy : Dig B24 ys) (hR : R.c (z4d (val B24 xs + val B24 ys))) :
    ∀(k i:Nat) (zs:List Nat) (c:Nat),xs.length-i=k→i≤xs.length→zs.length=xs.length+1→Dig B24 zs→c≤1→
     val B24 (zs.take i)+c*B24^i=val B24 (xs.take i)+val B24 (ys.take i)→
     Ok P 197 (loopHead P 197 0) ⟨J3 55 [(0,.cv (.lst xs.length (j3 xs))),(1,.cv (.lst ys.length (j3 ys))),(5,.sl 0 0 (xs.length+1) 1),(6,.cv (j7 (c:Int))),(7,.cv (j7 (i:Int)))],[some (own (j3 zs))]⟩ R:=by
 intro k
 induction k with
 |zero=>
  intro i zs c hk hi hz hd hc hv
  have:i=xs.length:=by omega
  subst this
  have e1:(0:Nat)+(xs.length:Int).toNat*1=xs.length:=by omega
  have hset:j4 (own (j3 zs)) xs.length [MV.cv (CV.lit (.int .i64 (c:Int)))]=own (j3 (zs.set xs.length c)):=Q7 (by omega)
  have hl2:(zs.set xs.length c).length=xs.length+1:=by simp[hz]
  refine zgm _ _ _ _ _ _ _ _ (by simp) (by rw[e1,hl2]) (by rw[e1];exact hd.set (by simp only[B24];omega) _) (by rw[e1,hl2];omega) (by omega) (by rw[e1,J4,Q9,hz];omega) ?_ ?_
  · rw[e1,hset];exact z0D (by rw[Q9,hl2])
  · rw[e1]
    have h1:val 16777216 (zs.set xs.length c)=val B24 xs+val B24 ys:=by
     rw[show(16777216:Nat)=B24 from rfl]
     have:=U1 (b:=B24) (xs:=zs) (i:=xs.length) (d:=c) (by omega)
     rw[List.take_of_length_le (by omega),Nat.mul_comm]at this
     rw[this,hv,List.take_length,z01 hle]
    rw[h1];exact hR
 |succ k ih=>
  intro i zs c hk hi hz hd hc hv
  have hlt:i<xs.length:=by omega
  have e1:(i:Int).toNat*1=i:=by omega
  have e2:(0:Nat)+(i:Int).toNat*1=i:=by omega
  have e3:i64.wrap ((i:Int)+1)=((i+1:Nat):Int):=by rw[w64 (by omega)];omega
  have gx:=W7 (xs:=xs) (i:=(i:Int).toNat*1) (by omega)
  have dx:=hx.get (by decide) i
  have dy:=hy.get (by decide) i
  have key: ∀y':Nat,y'=ys.getD i 0→val B24 ((zs.set i ((xs.getD i 0+y'+c)%B24)).take (i+1))+(xs.getD i 0+y'+c)/B24*B24^(i+1)=val B24 (xs.take (i+1))+val B24 (ys.take (i+1)):=by
   intro y' hy'
   rw[U1 (by omega),Z8,Z8,←hy',Nat.pow_succ]
   exact z6v _ _ _ _ _ _ _ _ _ _ hv (Nat.mod_add_div _ _)
  have hcar: ∀y':Nat,y'<B24→(xs.getD i 0+y'+c)/B24≤1:=by intro y' h;simp only[B24]at*;omega
  have hdg: ∀s:Nat,s%B24<B24:=fun s=>Nat.mod_lt _ (by decide)
  by_cases hi2:i<ys.length
  · have gy:=W7 (xs:=ys) (i:=(i:Int).toNat*1) (by omega)
    have hsum:i64.wrap (i64.wrap ((c:Int)+((xs.getD ((i:Int).toNat*1) 0:Nat):Int))+((ys.getD ((i:Int).toNat*1) 0:Nat):Int))=((xs.getD i 0+ys.getD i 0+c:Nat):Int):=by
     simp only[B24]at dx dy;rw[e1,w64 (n:=(c:Int)+_) (by omega),w64 (by omega)];omega
    obtain⟨s1,s2,s3⟩:=z6B (s:=xs.getD i 0+ys.getD i 0+c) (by simp only[B24]at dx dy;omega)
    have hset:j4 (own (j3 zs)) (0+(i:Int).toNat*1) [.cv (.lit (.int .i64 ((i64.wrap (i64.wrap ((c:Int)+((xs.getD ((i:Int).toNat*1) 0:Nat):Int))+((ys.getD ((i:Int).toNat*1) 0:Nat):Int))).tmod 16777216)))]=own (j3 (zs.set i ((xs.getD i 0+ys.getD i 0+c)%B24))):=by
     rw[hsum,s2,e2];exact Q7 (by omega)
    refine zjk _ _ _ _ _ _ _ _ (by simpa using hlt) (by simpa using hi2) (by omega) gx (by omega) gy (by omega) (by rw[e2,J4,Q9];omega) (by rw[hset];exact J0 _) hn ?_
    rw[hset,hsum,s3,e3]
    exact ih (i+1) _ _ (by omega) (by omega) (by simpa using hz) (hd.set (hdg _) _) (hcar _ dy) (key _ rfl)
  · have hsum : i64.wrap ((c : Int) + ((xs.getD ((i : Int).toNat * 1) 0 : Nat) : Int)) = ((xs.getD i 0 + 0 + c : Nat) : Int) := by
      simp only[B24]at dx;rw[e1,w64 (by omega)];omega
    obtain⟨s1,s2,s3⟩:=z6B (s:=xs.getD i 0+0+c) (by simp only[B24]at dx;omega)
    have hset:j4 (own (j3 zs)) (0+(i:Int).toNat*1) [.cv (.lit (.int .i64 ((i64.wrap ((c:Int)+((xs.getD ((i:Int).toNat*1) 0:Nat):Int))).tmod 16777216)))]=own (j3 (zs.set i ((xs.getD i 0+0+c)%B24))):=by
     rw[hsum,s2,e2];exact Q7 (by omega)
    refine zgX _ _ _ _ _ _ _ _ (by simpa using hlt) (by simpa using hi2) (by omega) gx (by omega) (by rw[e2,J4,Q9];omega) (by rw[hset];exact J0 _) hn ?_
    rw[hset,hsum,s3,e3]
    exact ih (i+1) _ _ (by omega) (by omega) (by simpa using hz) (hd.set (hdg _) _) (hcar _ (by decide)) (key 0 (z3I (by omega)).symm)
theorem z5L(a b:Nat)(ha:(dig B24 a).length<2^40)(hb:(dig B24 b).length<2^40):PCall P 197 [z4d a,z4d b] (z4d (a+b)):=by
 have main : ∀ x y : Nat, (dig B24 y).length ≤ (dig B24 x).length → (dig B24 x).length < 2 ^ 40 → ∀ R : CV → Prop, R (z4d (x + y)) →
     Ok P 197 (loopHead P 197 0) ⟨J3 55 [(0,.cv (z4d x)),(1,.cv (z4d y)),(5,.sl 0 0 ((dig B24 x).length+1) 1),(6,.cv (j7 0)),(7,.cv (j7 0))],[some (own (j3 (List.replicate ((dig B24 x).length+1) 0)))]⟩ (.of R):=by
  intro x y hxy hx R hR
  exact zb1 (R:= .of R) rfl (dig B24 x) (dig B24 y) hxy hx (W1 (by decide) _) (W1 (by decide) _) (by rw[Q5 (by decide),Q5 (by decide)];exact hR) _ 0
   (List.replicate ((dig B24 x).length+1) 0) 0 rfl (Nat.zero_le _) (by simp) (Dig.replicate (by decide) _) (by omega) (by simp[val])
 have e: ∀n:Nat,n<2^40→i64.wrap ((n:Int)+1)=((n+1:Nat):Int):=by intro n hn;rw[w64 (by omega)];omega
 by_cases h:(dig B24 a).length<(dig B24 b).length
 · refine V0 (zkc _ _ _ _ (by simpa using h) (by rw[e _ hb];omega) (by rw[z0g];exact J0 _) ?_)
   rw[z0g,e _ hb,show((((dig B24 b).length+1:Nat):Int)).toNat=(dig B24 b).length+1 by omega,Nat.mul_one]
   exact main b a (by omega) hb _ (by rw[Nat.add_comm])
 · refine V0 (zlQ _ _ _ _ (by simpa using h) (by rw[e _ ha];omega) (by rw[z0g];exact J0 _) ?_)
   rw[z0g,e _ ha,show((((dig B24 a).length+1:Nat):Int)).toNat=(dig B24 a).length+1 by omega,Nat.mul_one]
   exact main a b (by omega) ha _ rfl
theorem zkm(n m:Nat)(xs ys:List Nat)(o0:(0:Int)≤n∧(n:Int)≤n∧(8:Int)*n≤140737488355328∧(n:Int)≤4611686018427387904∧1=1)(o1:CvL (List.replicate ((n:Int).toNat*1) (.cv (.lit (.int .i64 0))))){Q:MV→List CV→Prop}(hR:Ok P 199 (loopHead P 199 0) ⟨J3 44 [(0,.cv (.lst n (j3 xs))),(1,.cv (.lst m (j3 ys))),(5,.sl 0 0 (n:Int).toNat 1),(6,.cv (.lit (.int .i64 0))),(7,.cv (.lit (.int .i64 0)))],[some (List.replicate ((n:Int).toNat*1) (.cv (.lit (.int .i64 0))))]⟩ (.fresh (z4a Q))):z53 P 199 [.lst n (j3 xs),.lst m (j3 ys)] Q:=
 zd3 (keep:=[0,1,5,6,7]) (σ:=[0]) (ors:=[(7,.stop)]) (by kernel_rfl) rfl (.cons o0 (.cons o1 .nil)) hR
theorem zhw(n m o c i:Nat)(xs ys zs:List Nat)(h1:decide ((i:Int)<n)=true)(h2:decide ((i:Int)<m)=true)(h3:decide (i64.wrap (i64.wrap ((↑(xs.getD ((i:Int).toNat*1) 0):Int)-c)-(↑(ys.getD ((i:Int).toNat*1) 0):Int))<0)=true)(o1:(0:Int)≤i∧(i:Int)<n)(o2:(j3 xs)[(i:Int).toNat*1]?=some (.lit (.int .i64 ↑(xs.getD ((i:Int).toNat*1) 0))))(o5:(0:Int)≤i∧(i:Int)<m)(o6:(j3 ys)[(i:Int).toNat*1]?=some (.lit (.int .i64 ↑(ys.getD ((i:Int).toNat*1) 0))))(o9:(0:Int)≤i∧(i:Int)<o)(o10:0+(i:Int).toNat*1+1≤(own (j3 zs)).length)(o11:CvL (j4 (own (j3 zs)) (0+(i:Int).toNat*1) [.cv (.lit (.int .i64 (i64.wrap (i64.wrap (i64.wrap ((↑(xs.getD ((i:Int).toNat*1) 0):Int)-c)-(↑(ys.getD ((i:Int).toNat*1) 0):Int))+16777216))))])){R:Goal}(hn:j9 R.n [0]=true)(hR:Ok P 199 (loopHead P 199 0) ⟨J3 44 [(0,.cv (.lst n (j3 xs))),(1,.cv (.lst m (j3 ys))),(5,.sl 0 0 o 1),(6,.cv (.lit (.int .i64 1))),(7,.cv (.lit (.int .i64 (i64.wrap ((i:Int)+1)))))],[some (j4 (own (j3 zs)) (0+(i:Int).toNat*1) [.cv (.lit (.int .i64 (i64.wrap (i64.wrap (i64.wrap ((↑(xs.getD ((i:Int).toNat*1) 0):Int)-c)-(↑(ys.getD ((i:Int).toNat*1) 0):Int))+16777216))))])]⟩ R):Ok P 199 (loopHead P 199 0) ⟨J3 44 [(0,.cv (.lst n (j3 xs))),(1,.cv (.lst m (j3 ys))),(5,.sl 0 0 o 1),(6,.cv (j7 (c:Int))),(7,.cv (j7 (i:Int)))],[some (own (j3 zs))]⟩ R:=
 z0S (m:=1) (keep:=[0,1,5,6,7]) (σ:=[0]) (.b 5 h1 (.c o1 (.l 9 o2 (.c (eqn 1) (.b 17 h2 (.c o5 (.l 22 o6 (.c (eqn 1) (.b 28 h3 (.c o9 (.c o10 (.o 41 .stop .nil)))))))))))) (by kernel_rfl) rfl hn hR (.cons o11 .nil)
theorem zjC(n m o c i:Nat)(xs ys zs:List Nat)(h1:decide ((i:Int)<n)=true)(h2:decide ((i:Int)<m)=true)(h3:decide (i64.wrap (i64.wrap ((↑(xs.getD ((i:Int).toNat*1) 0):Int)-c)-(↑(ys.getD ((i:Int).toNat*1) 0):Int))<0)=false)(o1:(0:Int)≤i∧(i:Int)<n)(o2:(j3 xs)[(i:Int).toNat*1]?=some (.lit (.int .i64 ↑(xs.getD ((i:Int).toNat*1) 0))))(o5:(0:Int)≤i∧(i:Int)<m)(o6:(j3 ys)[(i:Int).toNat*1]?=some (.lit (.int .i64 ↑(ys.getD ((i:Int).toNat*1) 0))))(o9:(0:Int)≤i∧(i:Int)<o)(o10:0+(i:Int).toNat*1+1≤(own (j3 zs)).length)(o11:CvL (j4 (own (j3 zs)) (0+(i:Int).toNat*1) [.cv (.lit (.int .i64 (i64.wrap (i64.wrap ((↑(xs.getD ((i:Int).toNat*1) 0):Int)-c)-(↑(ys.getD ((i:Int).toNat*1) 0):Int)))))])){R:Goal}(hn:j9 R.n [0]=true)(hR:Ok P 199 (loopHead P 199 0) ⟨J3 44 [(0,.cv (.lst n (j3 xs))),(1,.cv (.lst m (j3 ys))),(5,.sl 0 0 o 1),(6,.cv (.lit (.int .i64 0))),(7,.cv (.lit (.int .i64 (i64.wrap ((i:Int)+1)))))],[some (j4 (own (j3 zs)) (0+(i:Int).toNat*1) [.cv (.lit (.int .i64 (i64.wrap (i64.wrap ((↑(xs.getD ((i:Int).toNat*1) 0):Int)-c)-(↑(ys.getD ((i:Int).toNat*1) 0):Int)))))])]⟩ R):Ok P 199 (loopHead P 199 0) ⟨J3 44 [(0,.cv (.lst n (j3 xs))),(1,.cv (.lst m (j3 ys))),(5,.sl 0 0 o 1),(6,.cv (j7 (c:Int))),(7,.cv (j7 (i:Int)))],[some (own (j3 zs))]⟩ R:=
 z0S (m:=1) (keep:=[0,1,5,6,7]) (σ:=[0]) (.b 5 h1 (.c o1 (.l 9 o2 (.c (eqn 1) (.b 17 h2 (.c o5 (.l 22 o6 (.c (eqn 1) (.b 28 h3 (.c o9 (.c o10 (.o 37 .stop .nil)))))))))))) (by kernel_rfl) rfl hn hR (.cons o11 .nil)
theorem zje(n m o c i:Nat)(xs ys zs:List Nat)(h1:decide ((i:Int)<n)=true)(h2:decide ((i:Int)<m)=false)(h3:decide (i64.wrap ((↑(xs.getD ((i:Int).toNat*1) 0):Int)-c)<0)=true)(o1:(0:Int)≤i∧(i:Int)<n)(o2:(j3 xs)[(i:Int).toNat*1]?=some (.lit (.int .i64 ↑(xs.getD ((i:Int).toNat*1) 0))))(o6:(0:Int)≤i∧(i:Int)<o)(o7:0+(i:Int).toNat*1+1≤(own (j3 zs)).length)(o8:CvL (j4 (own (j3 zs)) (0+(i:Int).toNat*1) [.cv (.lit (.int .i64 (i64.wrap (i64.wrap ((↑(xs.getD ((i:Int).toNat*1) 0):Int)-c)+16777216))))])){R:Goal}(hn:j9 R.n [0]=true)(hR:Ok P 199 (loopHead P 199 0) ⟨J3 44 [(0,.cv (.lst n (j3 xs))),(1,.cv (.lst m (j3 ys))),(5,.sl 0 0 o 1),(6,.cv (.lit (.int .i64 1))),(7,.cv (.lit (.int .i64 (i64.wrap ((i:Int)+1)))))],[some (j4 (own (j3 zs)) (0+(i:Int).toNat*1) [.cv (.lit (.int .i64 (i64.wrap (i64.wrap ((↑(xs.getD ((i:Int).toNat*1) 0):Int)-c)+16777216))))])]⟩ R):Ok P 199 (loopHead P 199 0) ⟨J3 44 [(0,.cv (.lst n (j3 xs))),(1,.cv (.lst m (j3 ys))),(5,.sl 0 0 o 1),(6,.cv (j7 (c:Int))),(7,.cv (j7 (i:Int)))],[some (own (j3 zs))]⟩ R:=
 z0S (m:=1) (keep:=[0,1,5,6,7]) (σ:=[0]) (.b 5 h1 (.c o1 (.l 9 o2 (.c (eqn 1) (.b 17 h2 (.b 21 h3 (.c o6 (.c o7 (.o 34 .stop .nil))))))))) (by kernel_rfl) rfl hn hR (.cons o8 .nil)
theorem zgQ(n m o c i:Nat)(xs ys zs:List Nat)(h1:decide ((i:Int)<n)=true)(h2:decide ((i:Int)<m)=false)(h3:decide (i64.wrap ((↑(xs.getD ((i:Int).toNat*1) 0):Int)-c)<0)=false)(o1:(0:Int)≤i∧(i:Int)<n)(o2:(j3 xs)[(i:Int).toNat*1]?=some (.lit (.int .i64 ↑(xs.getD ((i:Int).toNat*1) 0))))(o6:(0:Int)≤i∧(i:Int)<o)(o7:0+(i:Int).toNat*1+1≤(own (j3 zs)).length)(o8:CvL (j4 (own (j3 zs)) (0+(i:Int).toNat*1) [.cv (.lit (.int .i64 (i64.wrap ((↑(xs.getD ((i:Int).toNat*1) 0):Int)-c))))])){R:Goal}(hn:j9 R.n [0]=true)(hR:Ok P 199 (loopHead P 199 0) ⟨J3 44 [(0,.cv (.lst n (j3 xs))),(1,.cv (.lst m (j3 ys))),(5,.sl 0 0 o 1),(6,.cv (.lit (.int .i64 0))),(7,.cv (.lit (.int .i64 (i64.wrap ((i:Int)+1)))))],[some (j4 (own (j3 zs)) (0+(i:Int).toNat*1) [.cv (.lit (.int .i64 (i64.wrap ((↑(xs.getD ((i:Int).toNat*1) 0):Int)-c))))])]⟩ R):Ok P 199 (loopHead P 199 0) ⟨J3 44 [(0,.cv (.lst n (j3 xs))),(1,.cv (.lst m (j3 ys))),(5,.sl 0 0 o 1),(6,.cv (j7 (c:Int))),(7,.cv (j7 (i:Int)))],[some (own (j3 zs))]⟩ R:=
 z0S (m:=1) (keep:=[0,1,5,6,7]) (σ:=[0]) (.b 5 h1 (.c o1 (.l 9 o2 (.c (eqn 1) (.b 17 h2 (.b 21 h3 (.c o6 (.c o7 (.o 30 .stop .nil))))))))) (by kernel_rfl) rfl hn hR (.cons o8 .nil)
theorem zhb(n m o c i:Nat)(xs ys zs:List Nat)(h1:decide ((i:Int)<n)=false)(a:o=zs.length)(d:zs.length<2^62)(o2:BlksCv [some (own (j3 zs)),some (own (j3 zs))]){R:Goal}(hn:R.Fresh)(hR:R.m (.sl 0 0 (tz zs).length 1) [some (own (j3 zs))]):Ok P 199 (loopHead P 199 0) ⟨J3 44 [(0,.cv (.lst n (j3 xs))),(1,.cv (.lst m (j3 ys))),(5,.sl 0 0 o 1),(6,.cv (j7 (c:Int))),(7,.cv (j7 (i:Int)))],[some (own (j3 zs))]⟩ R:=
 znT 1 (ors:=[(5,.b false),(7,.m [0] (.sl 0 0 (tz zs).length 1) [some (own (j3 zs))]),(9,.m [0] MV.unk [])]) (by kernel_rfl) (.cons h1 (.cons (za8 o zs a d) (.cons o2 (.cons (show CvL (own (j3 zs))from(J0 _)) .nil)))) hn hR
end Go.Fw
