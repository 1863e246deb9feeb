/- A part of the proof that the law returns true for every input: an executor for the model's code, and what functions of the program compute. -/
import Derived.Test.YtcafjpldfnegiaaDoorB11
import Derived.Test.YtcafjpldfnegiaaDoorB15
import Derived.Test.YtcafjpldfnegiaaDoorB16
import Derived.Test.YtcafjpldfnegiaaDoorB18
import Derived.Test.YtcafjpldfnegiaaDoorB19
import Derived.KernelRfl
open Go IntKind
namespace Go.Fw
set_option maxRecDepth 100000
theorem z3h(W P B:Nat):W/P%B*P≤W:=Nat.le_trans (Nat.mul_le_mul_right _ (Nat.mod_le _ _)) (Nat.div_mul_le_self _ _)
theorem z3n{W P B x:Nat}(hP:0<P)(hx:x<B):(W-W/P%B*P+x*P)/(P*B)=W/(P*B):=by
 have h1:=Nat.mod_add_div W P
 have h2:=Nat.mod_add_div (W/P) B
 have h3:P*(W/P)=W/P%B*P+P*B*(W/P/B):=by
  conv=>lhs;rw[←h2]
  rw[Nat.mul_add,Nat.mul_comm P (_%_),Nat.mul_assoc]
 have h4:W-W/P%B*P+x*P=(W%P+x*P)+P*B*(W/P/B):=by omega
 have h5:W%P+x*P<P*B:=by
  have:=Nat.mod_lt W hP
  calc W%P+x*P<P+x*P:=by omega
   _=(x+1)*P:=by rw[Nat.add_mul,Nat.one_mul,Nat.add_comm]
   _≤B*P:=Nat.mul_le_mul_right _ hx
   _=P*B:=Nat.mul_comm _ _
 rw[h4,Nat.add_mul_div_left _ _ (Nat.mul_pos hP (by omega)),Nat.div_eq_of_lt h5,Nat.zero_add,Nat.div_div_eq_div_mul]
theorem z56{m W k x:Nat}(hk:k<m)(hx:x<B32):j4 (own (j0 (Q7 B32 m W))) k [.cv (.lit (.int .u32 (x:Int)))]=own (j0 (Q7 B32 m (W-W/B32^k%B32*B32^k+x*B32^k))):=by
 rw[J0 (by rw[j5];exact hk),zaH (by decide) m W k x hk hx]
theorem z5y(d s b:Nat)(hd:d<4294967296)(hs:s<4294967296)(hb:b≤1):((d:Int)-s-b)%4294967296=(((d+8589934592-s-b)%4294967296:Nat):Int)∧bor d s b=((if d<s+b then 1 else 0:Nat):Int)∧(d+8589934592-s-b)%4294967296+s+b=d+(if d<s+b then 1 else 0)*4294967296:=by
 refine⟨by omega,?_,?_⟩
 · unfold bor
   split<;>split<;>first|rfl|omega
 · split<;>omega
theorem zan {R : Goal} (hn : j7 R.n [0] = true) (hL : R.Lent 1) (m W j n q : Nat) (ys : List Nat) (hyl : ys.length = n) (hy : Dig B32 ys) (hjm : j + n + 1 ≤ m) (hm : m < 2 ^ 40) (hq : q < B32)
    (hW:W/B32^(j+n+1)=0)
    (hA:q*val B32 ys*B32^j≤W→R.m (.cv (.lit (.int .u32 (q:Int)))) [some (own (j0 (Q7 B32 m (W-q*val B32 ys*B32^j))))])
    (hB:W<q*val B32 ys*B32^j→ ∀Wf,Wf+q*val B32 ys*B32^j=W+B32^(j+n+1)→Wf/B32^(j+n+1)=0→
     Ok P 85 (loopHead P 85 2) ⟨J6 159 [(0,.sl 0 j (n+1) 1),(5,.cv (.lit (.int .i64 n))),(7,.cv (.lit (.int .u64 ((q-1:Nat):Int)))),(13,.cv (.lit (.int .u32 ((0:Nat):Int)))),(129,.cv (.lst n (j0 ys))),(130,.cv (.lit (.int .i64 n))),(131,.cv (.lit (.int .i64 ((0:Nat):Int))))],[some (own (j0 (Q7 B32 m Wf)))]⟩ R):
    ∀(k i Wi c b:Nat),n-i=k→i≤n→c<B32→b≤1→Wi/B32^(j+i)=W/B32^(j+i)→Wi+q*val B32 (ys.take i)*B32^j=W+(c+b)*B32^(j+i)→
     Ok P 85 (loopHead P 85 1) ⟨J6 159 [(0,.sl 0 j (n+1) 1),(1,.cv (.lst n (j0 ys))),(5,.cv (.lit (.int .i64 n))),(7,.cv (.lit (.int .u64 q))),(9,.cv (.lit (.int .u64 c))),(10,.cv (.lit (.int .u32 b))),(81,.cv (.lst n (j0 ys))),(82,.cv (.lit (.int .i64 n))),(83,.cv (.lit (.int .i64 i)))],[some (own (j0 (Q7 B32 m Wi)))]⟩ R:=by
 intro k
 induction k with
 |zero=>
  intro i Wi c b hk hi hc hb hhi hinv
  have:i=n:=by omega
  subst this
  have e0:j+(i:Int).toNat*1=j+i:=by omega
  have hdg:=X0 B32 m Wi (j+i) (by omega)
  have hdlt:Wi/B32^(j+i)%B32<B32:=Nat.mod_lt _ (by decide)
  have hlen:=j5 B32 m Wi
  have hgz:=U1 (J9 (xs:=Q7 B32 m Wi) (i:=j+i) (by rw[hlen];omega))
  have hPle:=z3h Wi (B32^(j+i)) B32
  have hPpos:=Z7 (j+i)
  have hwc:u32.wrap (c:Int)=c:=by rw[z5o];simp only[B32]at hc;omega
  obtain⟨s1,s2,s3⟩:=z5y (Wi/B32^(j+i)%B32) c b hdlt hc hb
  have hnew:(Wi/B32^(j+i)%B32+8589934592-c-b)%4294967296<B32:=Nat.mod_lt _ (by decide)
  have hput:=z56 (m:=m) (W:=Wi) (k:=j+i) (by omega) hnew
  have hhigh:=z3n (W:=Wi) hPpos hnew
  generalize hdd:Wi/B32^(j+i)%B32=d at*
  generalize hnn:(d+8589934592-c-b)%4294967296=nw at*
  have hval:ys.take i=ys:=by rw[←hyl,List.take_length]
  rw[hval]at hinv
  have hstep:=z72 W Wi q (val B32 ys) 0 (B32^(j+i)) (B32^j) c b d c 0 (if d<c+b then 1 else 0) nw hinv ⟨B32^i,Nat.pow_add ..⟩ (by omega) s3 hPle (B32^i) (Nat.pow_add ..)
  rw[Nat.mul_zero,Nat.add_zero,Nat.zero_add,←Nat.pow_succ]at hstep
  rw[←Nat.pow_succ]at hhigh
  simp only[Nat.succ_eq_add_one]at hstep hhigh
  have hhigh0:Wi/B32^(j+i+1)=0:=by
   rw[Nat.pow_succ,←Nat.div_div_eq_div_mul,hhi,Nat.div_div_eq_div_mul,←Nat.pow_succ];exact hW
  rw[hhigh0]at hhigh
  by_cases hbor:d<c+b
  · rw[if_pos hbor]at s2 hstep
    have hlt:W<q*val B32 ys*B32^j:=by
     have:Wi-d*B32^(j+i)+nw*B32^(j+i)<B32^(j+i+1):=by
      rcases Nat.lt_or_ge (Wi-d*B32^(j+i)+nw*B32^(j+i)) (B32^(j+i+1))with h|h
      · exact h
      · exact absurd hhigh (Nat.ne_of_gt (Nat.div_pos h (Z7 _)))
     omega
    have hqpos:0<q:=by
     rcases Nat.eq_zero_or_pos q with h|h
     · subst h;simp at hlt
     · exact h
    have hq1:u64.wrap ((q:Int)-1)=((q-1:Nat):Int):=by rw[z12];simp only[B32]at hq;omega
    refine z98 j i q c b i _ ys (by simp) (by rw[e0,hdg,hwc,s2];rfl) (by rw[e0,hdg];simp only[B32]at hdlt;omega) (by rw[hwc];simp only[B32]at hc;omega) (by omega) (by omega) (by rw[e0];exact hgz) (by omega) (by rw[e0,J4,j9,hlen];omega) ?_ hn ?_
    · rw[e0,hdg,hwc,s1,hput];exact J8 _
    · rw[e0,hdg,hwc,s1,hput,hq1]
      exact hB hlt _ (by rw[hstep,Nat.one_mul]) hhigh
  · rw[if_neg hbor,Nat.zero_mul,Nat.add_zero]at hstep
    rw[if_neg hbor]at s2
    have hwq:u32.wrap (q:Int)=q:=by rw[z5o];simp only[B32]at hq;omega
    have hle:q*val B32 ys*B32^j≤W:=by omega
    refine z8E j i q c b i _ ys (by simp) (by rw[e0,hdg,hwc,s2];rfl) (by rw[e0,hdg];simp only[B32]at hdlt;omega) (by rw[hwc];simp only[B32]at hc;omega) (by omega) (by omega) (by rw[e0];exact hgz) (by omega) (by rw[e0,J4,j9,hlen];omega) ?_ hL ?_
    · rw[e0,hdg,hwc,s1,hput];exact BlksCv.one (J8 _)
    · rw[e0,hdg,hwc,s1,hput,hwq,show Wi-d*B32^(j+i)+nw*B32^(j+i)=W-q*val B32 ys*B32^j by omega]
      exact hA hle
 |succ k ih=>
  intro i Wi c b hk hi hc hb hhi hinv
  have hlt:i<n:=by omega
  have e1:(i:Int).toNat*1=i:=by omega
  have e0:j+(i:Int).toNat*1=j+i:=by omega
  have e3:i64.wrap ((i:Int)+1)=((i+1:Nat):Int):=by rw[w64 (by omega)];omega
  have hdg:=X0 B32 m Wi (j+i) (by omega)
  have hdlt:Wi/B32^(j+i)%B32<B32:=Nat.mod_lt _ (by decide)
  have hlen:=j5 B32 m Wi
  have hgz:=U1 (J9 (xs:=Q7 B32 m Wi) (i:=j+i) (by rw[hlen];omega))
  have hgy:=J9 (xs:=ys) (i:=i) (by omega)
  have hx:=hy.get (by decide) i
  have hPle:=z3h Wi (B32^(j+i)) B32
  have hPpos:=Z7 (j+i)
  have htk:=Y0 (b:=B32) (xs:=ys) (i:=i) (by omega)
  generalize hxx:ys.getD i 0=x at*
  have hprod:q*x≤4294967295*4294967295:=Nat.mul_le_mul (by simp only[B32]at hq;omega) (by simp only[B32]at hx;omega)
  have w1:u64.wrap (x:Int)=x:=by rw[z12];simp only[B32]at hx;omega
  have w2:u64.wrap ((q:Int)*x)=((q*x:Nat):Int):=by rw[z12,Int.natCast_mul];rw[←Int.natCast_mul];omega
  have w3:u64.wrap ((c:Int)+((q*x:Nat):Int))=((c+q*x:Nat):Int):=by rw[z12];simp only[B32]at hc;omega
  have w4:u32.wrap ((c+q*x:Nat):Int)=(((c+q*x)%4294967296:Nat):Int):=by rw[z5o];omega
  have w5:((c+q*x:Nat):Int).fdiv 4294967296=(((c+q*x)/4294967296:Nat):Int):=by rw[fdp _ (by decide)];omega
  have hs:(c+q*x)%4294967296<B32:=Nat.mod_lt _ (by decide)
  have hc2:(c+q*x)/4294967296<B32:=by simp only[B32]at*;omega
  have hsum:c+q*x=(c+q*x)%4294967296+B32*((c+q*x)/4294967296):=(Nat.mod_add_div _ _).symm
  obtain⟨s1,s2,s3⟩:=z5y (Wi/B32^(j+i)%B32) ((c+q*x)%4294967296) b hdlt hs hb
  have hnew:(Wi/B32^(j+i)%B32+8589934592-(c+q*x)%4294967296-b)%4294967296<B32:=Nat.mod_lt _ (by decide)
  have hput:=z56 (m:=m) (W:=Wi) (k:=j+i) (by omega) hnew
  have hhigh:=z3n (W:=Wi) hPpos hnew
  generalize hdd:Wi/B32^(j+i)%B32=d at*
  generalize hnn:(d+8589934592-(c+q*x)%4294967296-b)%4294967296=nw at*
  have hstep:=z72 W Wi q (val B32 (ys.take i)) x (B32^(j+i)) (B32^j) c b d ((c+q*x)%4294967296) ((c+q*x)/4294967296) (if d<(c+q*x)%4294967296+b then 1 else 0) nw hinv ⟨B32^i,Nat.pow_add ..⟩ hsum s3 hPle (B32^i) (Nat.pow_add ..)
  rw[←htk,←Nat.pow_succ]at hstep
  rw[←Nat.pow_succ]at hhigh
  simp only[Nat.succ_eq_add_one]at hstep hhigh
  have hhi2:(Wi-d*B32^(j+i)+nw*B32^(j+i))/B32^(j+(i+1))=W/B32^(j+(i+1)):=by
   rw[←Nat.add_assoc,hhigh,Nat.pow_succ,←Nat.div_div_eq_div_mul,hhi,Nat.div_div_eq_div_mul]
  refine z8j j n q c b i _ ys (by simpa using hlt) (by rw[e0,hdg];simp only[B32]at hdlt;omega) (by rw[e1,hxx,w1,w2,w3,w4];omega) (by omega) (by omega) (by rw[e1,hxx];exact hgy) (by omega) (by rw[e0];exact hgz) (by omega) (by rw[e0,J4,j9,hlen];omega) ?_ hn ?_
  · rw[e0,e1,hxx,hdg,w1,w2,w3,w4,s1,hput];exact J8 _
  · rw[e0,e1,e3,hxx,hdg,w1,w2,w3,w4,w5,s1,s2,hput]
    exact ih (i+1) _ _ _ (by omega) (by omega) hc2 (by split<;>omega) hhi2 hstep
theorem z8M {R : Goal} (hn : j7 R.n [0] = true) (hL : R.Lent 1) (m W j n q : Nat) (ys : List Nat) (hyl : ys.length = n) (hy : Dig B32 ys) (hjm : j + n + 1 ≤ m) (hm : m < 2 ^ 40) (hq : q < B32)
    (hR:R.m (.cv (.lit (.int .u32 (q:Int)))) [some (own (j0 (Q7 B32 m W)))]) (Wf:Nat) (hWf:Wf+val B32 ys*B32^j=W+B32^(j+n+1)) (hf0:Wf/B32^(j+n+1)=0):
    ∀(k i Wi b:Nat),n-i=k→i≤n→b≤1→Wi/B32^(j+i)=Wf/B32^(j+i)→Wi+b*B32^(j+i)=Wf+val B32 (ys.take i)*B32^j→
     Ok P 85 (loopHead P 85 2) ⟨J6 159 [(0,.sl 0 j (n+1) 1),(5,.cv (.lit (.int .i64 n))),(7,.cv (.lit (.int .u64 q))),(13,.cv (.lit (.int .u32 b))),(129,.cv (.lst n (j0 ys))),(130,.cv (.lit (.int .i64 n))),(131,.cv (.lit (.int .i64 i)))],[some (own (j0 (Q7 B32 m Wi)))]⟩ R:=by
 intro k
 induction k with
 |zero=>
  intro i Wi b hk hi hb hhi hinv
  have:i=n:=by omega
  subst this
  have e0:j+(i:Int).toNat*1=j+i:=by omega
  have hdg:=X0 B32 m Wi (j+i) (by omega)
  have hdlt:Wi/B32^(j+i)%B32<B32:=Nat.mod_lt _ (by decide)
  have hlen:=j5 B32 m Wi
  have hgz:=U1 (J9 (xs:=Q7 B32 m Wi) (i:=j+i) (by rw[hlen];omega))
  have hPle:=z3h Wi (B32^(j+i)) B32
  have hPpos:=Z7 (j+i)
  have hval:ys.take i=ys:=by rw[←hyl,List.take_length]
  rw[hval,hWf]at hinv
  have hhigh0:Wi/B32^(j+i+1)=0:=by
   rw[Nat.pow_succ,←Nat.div_div_eq_div_mul,hhi,Nat.div_div_eq_div_mul,←Nat.pow_succ];exact hf0
  have hwq:u32.wrap (q:Int)=q:=by rw[z5o];simp only[B32]at hq;omega
  have hwd:u32.wrap (((Wi/B32^(j+i)%B32:Nat):Int)+b)=(((Wi/B32^(j+i)%B32+b)%4294967296:Nat):Int):=by rw[z5o];omega
  have hnew:(Wi/B32^(j+i)%B32+b)%4294967296<B32:=Nat.mod_lt _ (by decide)
  have hput:=z56 (m:=m) (W:=Wi) (k:=j+i) (by omega) hnew
  have hhigh:=z3n (W:=Wi) hPpos hnew
  rw[←Nat.pow_succ]at hhigh
  simp only[Nat.succ_eq_add_one]at hhigh
  rw[hhigh0]at hhigh
  have hfin:Wi-Wi/B32^(j+i)%B32*B32^(j+i)+(Wi/B32^(j+i)%B32+b)%4294967296*B32^(j+i)=W:=by
   have hlt:Wi-Wi/B32^(j+i)%B32*B32^(j+i)+(Wi/B32^(j+i)%B32+b)%4294967296*B32^(j+i)<B32^(j+i+1):=by
    rcases Nat.lt_or_ge (Wi-Wi/B32^(j+i)%B32*B32^(j+i)+(Wi/B32^(j+i)%B32+b)%4294967296*B32^(j+i)) (B32^(j+i+1))with h|h
    · exact h
    · exact absurd hhigh (Nat.ne_of_gt (Nat.div_pos h (Z7 _)))
   generalize Wi/B32^(j+i)%B32=d at*
   have hm2:=Nat.mod_add_div (d+b) 4294967296
   have hcar:(d+b)/4294967296=0∨(d+b)/4294967296=1:=by simp only[B32]at hdlt;omega
   have hPB:B32^(j+i+1)=B32*B32^(j+i):=by rw[Nat.pow_succ,Nat.mul_comm]
   rcases hcar with h|h
   · rw[h]at hm2
     rw[show(d+b)%4294967296=d+b by omega,Nat.add_mul]at hlt
     omega
   · rw[h]at hm2
     have h3:(d+b)%4294967296*B32^(j+i)+B32*B32^(j+i)=d*B32^(j+i)+b*B32^(j+i):=by
      rw[←Nat.add_mul,←Nat.add_mul];congr 1
     omega
  refine z8s j i q b i _ ys (by simp) (by omega) (by rw[e0];exact hgz) (by omega) (by rw[e0,J4,j9,hlen];omega) ?_ hL ?_
  · rw[e0,hdg,hwd,hput];exact BlksCv.one (J8 _)
  · rw[e0,hdg,hwd,hput,hfin,hwq];exact hR
 |succ k ih=>
  intro i Wi b hk hi hb hhi hinv
  have hlt:i<n:=by omega
  have e1:(i:Int).toNat*1=i:=by omega
  have e0:j+(i:Int).toNat*1=j+i:=by omega
  have e3:i64.wrap ((i:Int)+1)=((i+1:Nat):Int):=by rw[w64 (by omega)];omega
  have hdg:=X0 B32 m Wi (j+i) (by omega)
  have hdlt:Wi/B32^(j+i)%B32<B32:=Nat.mod_lt _ (by decide)
  have hlen:=j5 B32 m Wi
  have hgz:=U1 (J9 (xs:=Q7 B32 m Wi) (i:=j+i) (by rw[hlen];omega))
  have hgy:=J9 (xs:=ys) (i:=i) (by omega)
  have hx:=hy.get (by decide) i
  have hPle:=z3h Wi (B32^(j+i)) B32
  have hPpos:=Z7 (j+i)
  have htk:=Y0 (b:=B32) (xs:=ys) (i:=i) (by omega)
  generalize hxx:ys.getD i 0=x at*
  have w1:(((Wi/B32^(j+i)%B32:Nat):Int)+x+b)%4294967296=(((Wi/B32^(j+i)%B32+x+b)%4294967296:Nat):Int):=by omega
  have w2:(((Wi/B32^(j+i)%B32:Nat):Int)+x+b)/4294967296=(((Wi/B32^(j+i)%B32+x+b)/4294967296:Nat):Int):=by omega
  have hnew:(Wi/B32^(j+i)%B32+x+b)%4294967296<B32:=Nat.mod_lt _ (by decide)
  have hput:=z56 (m:=m) (W:=Wi) (k:=j+i) (by omega) hnew
  have hhigh:=z3n (W:=Wi) hPpos hnew
  have hhi2:(Wi-Wi/B32^(j+i)%B32*B32^(j+i)+(Wi/B32^(j+i)%B32+x+b)%4294967296*B32^(j+i))/B32^(j+(i+1))=Wf/B32^(j+(i+1)):=by
   rw[←Nat.add_assoc,Nat.pow_succ,hhigh,←Nat.div_div_eq_div_mul,hhi,Nat.div_div_eq_div_mul]
  generalize hdd:Wi/B32^(j+i)%B32=d at*
  have hb2:(d+x+b)/4294967296≤1:=by simp only[B32]at*;omega
  have hstep:Wi-d*B32^(j+i)+(d+x+b)%4294967296*B32^(j+i)+(d+x+b)/4294967296*B32^(j+(i+1))=Wf+val B32 (ys.take (i+1))*B32^j:=by
   have hm2:=Nat.mod_add_div (d+x+b) 4294967296
   have h1:(d+x+b)%4294967296*B32^(j+i)+(d+x+b)/4294967296*B32^(j+(i+1))=d*B32^(j+i)+x*B32^(j+i)+b*B32^(j+i):=by
    rw[←Nat.add_assoc j i 1,Nat.pow_succ,Nat.mul_comm (B32^(j+i)) B32,←Nat.mul_assoc,←Nat.add_mul,←Nat.add_mul,←Nat.add_mul]
    congr 1;simp only[B32];omega
   have h2:val B32 (ys.take (i+1))*B32^j=val B32 (ys.take i)*B32^j+x*B32^(j+i):=by
    rw[htk,Nat.add_mul,Nat.pow_add,Nat.mul_comm (B32^i) x,Nat.mul_assoc,Nat.mul_comm (B32^i)]
   omega
  refine z9d j n q b i _ ys (by simpa using hlt) (by rw[e0,hdg];simp only[B32]at hdlt;omega) (by rw[e1,hxx];simp only[B32]at hx;omega) (by omega) (by omega) (by rw[e1,hxx];exact hgy) (by omega) (by rw[e0];exact hgz) (by omega) (by rw[e0,J4,j9,hlen];omega) ?_ hn ?_
  · rw[e0,e1,hxx,hdg,w1,hput];exact J8 _
  · rw[e0,e1,e3,hxx,hdg,w1,w2,hput]
    exact ih (i+1) _ _ (by omega) (by omega) hb2 hhi2 hstep
theorem z7S {R : Goal} (hn : j7 R.n [0] = true) (m W j n : Nat) (ys : List Nat) (hyl : ys.length = n) (hn2 : 2 ≤ n) (_hy : Dig B32 ys) (hjm : j + n + 1 ≤ m) (hm : m < 2 ^ 40)
    (v1 v2 top u2 p:Nat) (hv1:ys.getD (n-1) 0=v1) (hv2:ys.getD (n-2) 0=v2) (hu2:W/B32^(j+(n-2))%B32=u2)
    (g:Guess (W/B32^j) (val B32 ys) v1 v2 top u2 p)
    (hR: ∀q,q<B32→(q=W/B32^j/val B32 ys∨q=W/B32^j/val B32 ys+1)→
     Ok P 85 (loopHead P 85 1) ⟨J6 159 [(0,.sl 0 j (n+1) 1),(1,.cv (.lst n (j0 ys))),(5,.cv (.lit (.int .i64 n))),(7,.cv (.lit (.int .u64 q))),(9,.cv (.lit (.int .u64 (0:Int)))),(10,.cv (.lit (.int .u32 (0:Int)))),(81,.cv (.lst n (j0 ys))),(82,.cv (.lit (.int .i64 n))),(83,.cv (.lit (.int .i64 (0:Int))))],[some (own (j0 (Q7 B32 m W)))]⟩ R):
    ∀(q r:Nat),Corr (W/B32^j) (val B32 ys) v1 v2 top u2 q r→
     Ok P 85 (loopHead P 85 0) ⟨J6 159 [(0,.sl 0 j (n+1) 1),(1,.cv (.lst n (j0 ys))),(5,.cv (.lit (.int .i64 n))),(7,.cv (.lit (.int .u64 q))),(8,.cv (.lit (.int .u64 r)))],[some (own (j0 (Q7 B32 m W)))]⟩ R:=by
 intro q
 induction q using Nat.strongRecOn with
 |_ q ih=>
  intro r c
  have hlen:=j5 B32 m W
  have en1:i64.wrap ((n:Int)-1)=((n-1:Nat):Int):=by rw[w64 (by omega)];omega
  have en2:i64.wrap ((n:Int)-2)=((n-2:Nat):Int):=by rw[w64 (by omega)];omega
  have e1:(((n-1:Nat):Int)).toNat*1=n-1:=by omega
  have e2:(((n-2:Nat):Int)).toNat*1=n-2:=by omega
  have hg1:=J9 (xs:=ys) (i:=n-1) (by omega)
  have hg2:=J9 (xs:=ys) (i:=n-2) (by omega)
  have hgz:=U1 (J9 (xs:=Q7 B32 m W) (i:=j+(n-2)) (by rw[hlen];omega))
  have hdg:=X0 B32 m W (j+(n-2)) (by omega)
  rw[hu2]at hdg
  have hv1b:=g.hv1'
  have hv2b:=g.hv2
  have hu2b:=g.hu2
  have hr:=c.rest
  have hup:=c.up
  have w1:u64.wrap (v1:Int)=v1:=by rw[z12];simp only[B32]at hv1b;omega
  have w2:u64.wrap ((r:Int)+v1)=((r+v1:Nat):Int):=by rw[z12];simp only[B32]at*;omega
  have wq:0<q→u64.wrap ((q:Int)-1)=((q-1:Nat):Int):=by intro h;rw[z12];simp only[B32]at hup;omega
  have w3:u64.wrap (v2:Int)=v2:=by rw[z12];simp only[B32]at hv2b;omega
  have w4:u64.wrap (u2:Int)=u2:=by rw[z12];simp only[B32]at hu2b;omega
  have w5:(2:Int)^min (Int.toNat 32) u64.bits=4294967296:=rfl
  have w6:u64.wrap ((r:Int)*4294967296)=((r*2^32:Nat):Int):=by rw[z12];simp only[B32]at hr;omega
  have w7:Y2 BinOp.or u64 ((r*2^32:Nat):Int) (u2:Int)=((r*B32+u2:Nat):Int):=by
   rw[z5X (by simp only[B32]at hr;omega) (by simp only[B32]at hu2b;omega),z0R 32 (by simp only[B32]at hu2b;omega)]
  have hprod:q≤B32+1→q*v2<18446744073709551616:=by
   intro h
   have:q*v2≤4294967297*4294967295:=Nat.mul_le_mul (by simp only[B32]at h;omega) (by simp only[B32]at hv2b;omega)
   omega
  have w8:u64.wrap ((q:Int)*v2)=((q*v2:Nat):Int):=by rw[←Int.natCast_mul,z12];have:=hprod hup;omega
  have exitOk: ∀q',q'<B32→(q'=W/B32^j/val B32 ys∨q'=W/B32^j/val B32 ys+1)→_:=hR
  by_cases hq:B32≤q
  · have hpos:0<q:=by simp only[B32]at hq;omega
    by_cases hb:B32≤r+v1
    · obtain⟨k1,k2⟩:=c.last g (.inl hq) hb
      refine z8r j n q r _ ys (by simp only[B32]at hq;simp;omega) ?_ ?_ ?_ ?_ hn ?_
      all_goals (try rw[en1,e1,hv1,w1,w2])
      · simp only[B32]at hb;simp;omega
      · omega
      · rw[en1,e1];exact hg1
      · exact J8 _
      · rw[wq hpos];exact hR _ k1 k2
    · have c2:=c.step g (.inl hq) (by omega)
      refine z8t j n q r _ ys (by simp only[B32]at hq;simp;omega) ?_ ?_ ?_ ?_ hn ?_
      · rw[en1,e1,hv1,w1,w2];simp only[B32]at hb;simp;omega
      · rw[en1];omega
      · rw[en1,e1];exact hg1
      · exact J8 _
      · rw[en1,e1,hv1,w1,w2,wq hpos];exact ih (q-1) (by omega) _ c2
  · have t2 : (decide (u64.wrap ((q : Int) * u64.wrap ((ys.getD ((i64.wrap ((n : Int) - 2)).toNat * 1) 0 : Nat) : Int)) >
        Y2 BinOp.or u64 (u64.wrap ((r:Int)*2^min (Int.toNat 32) u64.bits)) (u64.wrap (((Q7 B32 m W).getD (j+(i64.wrap ((n:Int)-2)).toNat*1) 0:Nat):Int))))=decide (r*B32+u2<q*v2):=by
      rw[en2,e2,hv2,hdg,w3,w4,w5,w6,w7,w8]
      exact decide_eq_decide.2 (by omega)
    by_cases ht:r*B32+u2<q*v2
    · have hpos : 0 < q := by rcases Nat.eq_zero_or_pos q with h | h
                              · subst h;simp at ht
                              · exact h
      by_cases hb:B32≤r+v1
      · obtain⟨k1,k2⟩:=c.last g (.inr ht) hb
        refine z8x j n q r _ ys (by simp only[B32]at hq;simp;omega) (by rw[t2];simpa using ht) ?_ (by rw[en2];omega) (by rw[en2,e2];exact hg2) (by rw[en2];omega) (by rw[en2,e2];exact hgz) (by rw[en1];omega) (by rw[en1,e1];exact hg1) (J8 _) hn ?_
        · rw[en1,e1,hv1,w1,w2];simp only[B32]at hb;simp;omega
        · rw[wq hpos];exact hR _ k1 k2
      · have c2:=c.step g (.inr ht) (by omega)
        refine z9u j n q r _ ys (by simp only[B32]at hq;simp;omega) (by rw[t2];simpa using ht) ?_ (by rw[en2];omega) (by rw[en2,e2];exact hg2) (by rw[en2];omega) (by rw[en2,e2];exact hgz) (by rw[en1];omega) (by rw[en1,e1];exact hg1) (J8 _) hn ?_
        · rw[en1,e1,hv1,w1,w2];simp only[B32]at hb;simp;omega
        · rw[en1,e1,hv1,w1,w2,wq hpos];exact ih (q-1) (by omega) _ c2
    · refine z9D j n q r _ ys (by simp only[B32]at hq;simp;omega) (by rw[t2];simpa using ht) (by rw[en2];omega) (by rw[en2,e2];exact hg2) (by rw[en2];omega) (by rw[en2,e2];exact hgz) (J8 _) hn ?_
      exact hR q (by omega) (c.done g (by omega) (by omega))
theorem z1M(W b j k:Nat):W/b^j/b^k=W/b^(j+k):=by rw[Nat.div_div_eq_div_mul,Nat.pow_add]
theorem z7Z (m W j n : Nat) (ys : List Nat) (hyl : ys.length = n) (hn2 : 2 ≤ n) (hy : Dig B32 ys) (hjm : j + n + 1 ≤ m) (hm : m < 2 ^ 40) (htop : B32 ≤ 2 * ys.getD (n - 1) 0) (hlt : W / B32 ^ j < val B32 ys * B32) :
    z2j P 85 [some (own (j0 (Q7 B32 m W)))] [.sl 0 j (n+1) 1,.cv (.lst n (j0 ys))] (.cv (.lit (.int .u32 ((W/B32^j/val B32 ys:Nat):Int)))) [some (own (j0 (Q7 B32 m (W-W/B32^j/val B32 ys*val B32 ys*B32^j))))]:=by
 have hlen:=j5 B32 m W
 have en1:i64.wrap ((n:Int)-1)=((n-1:Nat):Int):=by rw[w64 (by omega)];omega
 have e1:(((n-1:Nat):Int)).toNat*1=n-1:=by omega
 have en:(n:Int).toNat*1=n:=by omega
 have hVn:val B32 ys<B32^n:=by have:=z0u (by decide:0<B32) ys hy;rwa[hyl]at this
 have hU:W/B32^j<B32^(n+1):=by
  rw[Nat.pow_succ]
  exact Nat.lt_trans hlt (Nat.mul_lt_mul_of_pos_right hVn (by decide))
 have hW0:W/B32^(j+n+1)=0:=by rw[Nat.add_assoc,←z1M];exact Nat.div_eq_of_lt hU
 have hdn:W/B32^(j+n)%B32=W/B32^(j+n):=by
  apply Nat.mod_eq_of_lt
  rw[←z1M,Nat.div_lt_iff_lt_mul (Z7 _),Nat.mul_comm,←Nat.pow_succ];exact hU
 have hy1:=hy.get (by decide) (n-1)
 have hy2:=hy.get (by decide) (n-2)
 have hd1:W/B32^(j+(n-1))%B32<B32:=Nat.mod_lt _ (by decide)
 have hd2:W/B32^(j+(n-2))%B32<B32:=Nat.mod_lt _ (by decide)
 have hd0:W/B32^(j+n)<B32:=by rw[←hdn];exact Nat.mod_lt _ (by decide)
 have hT:W/B32^j/B32^(n-2)=(W/B32^(j+n)*B32+W/B32^(j+(n-1))%B32)*B32+W/B32^(j+(n-2))%B32:=by
  have h1:=Nat.mod_add_div (W/B32^(j+(n-2))) B32
  have h2:=Nat.mod_add_div (W/B32^(j+(n-1))) B32
  rw[Nat.div_div_eq_div_mul,←Nat.pow_succ,show(j+(n-2)).succ=j+(n-1) by omega]at h1
  rw[Nat.div_div_eq_div_mul,←Nat.pow_succ,show(j+(n-1)).succ=j+n by omega]at h2
  rw[z1M]
  conv=>lhs;rw[←h1,←h2]
  generalize W/B32^(j+n)=a
  generalize W/B32^(j+(n-1))%B32=b
  generalize W/B32^(j+(n-2))%B32=c
  simp only[B32];omega
 have hV:val B32 ys=(ys.getD (n-1) 0*B32+ys.getD (n-2) 0)*B32^(n-2)+val B32 (ys.take (n-2)):=by
  have h1:=z0l (b:=B32) ys (n-2) (by omega)
  have h2:=z0s (b:=B32) (xs:=ys) (i:=n-2) (by omega)
  have h3:=z0s (b:=B32) (xs:=ys) (i:=n-1) (by omega)
  rw[show n-2+1=n-1 by omega]at h2
  have h4:ys.drop n=[]:=List.drop_eq_nil_of_le (by omega)
  rw[show n-1+1=n by omega,h4]at h3
  rw[h1,h2,h3]
  simp only[val,Nat.mul_zero,Nat.add_zero]
  rw[Nat.mul_comm (B32^(n-2)),Nat.add_comm,Nat.add_comm (ys.getD (n-2) 0),Nat.mul_comm B32]
 have hvl:val B32 (ys.take (n-2))<B32^(n-2):=by
  have:=z0u (by decide:0<B32) _ (hy.take (n-2))
  rwa[List.length_take,Nat.min_eq_left (by omega)]at this
 have g:Guess (W/B32^j) (val B32 ys) (ys.getD (n-1) 0) (ys.getD (n-2) 0) (W/B32^(j+n)*B32+W/B32^(j+(n-1))%B32) (W/B32^(j+(n-2))%B32) (B32^(n-2)):=
  ⟨Z7 _,⟨W/B32^j%B32^(n-2),Nat.mod_lt _ (Z7 _),by rw[←hT,Nat.mul_comm];exact(Nat.div_add_mod _ _).symm⟩,⟨_,hvl,hV⟩,by simp only[B32]at htop;omega,hy1,hy2,hd2,hlt⟩
 have hdgn:=X0 B32 m W (j+n) (by omega)
 have hdg1:=X0 B32 m W (j+(n-1)) (by omega)
 rw[hdn]at hdgn
 have hv1:ys.getD (n-1) 0≠0:=by have:=g.hv1;omega
 generalize hdnn:W/B32^(j+n)=a at*
 generalize hbnn:W/B32^(j+(n-1))%B32=b at*
 have w1:u64.wrap ((ys.getD (n-1) 0:Nat):Int)=(ys.getD (n-1) 0:Nat):=by rw[z12];simp only[B32]at hy1;omega
 have w2:u64.wrap ((a:Nat):Int)=a:=by rw[z12];simp only[B32]at hd0;omega
 have w3:u64.wrap ((b:Nat):Int)=b:=by rw[z12];simp only[B32]at hd1;omega
 have w4:u64.wrap ((a:Int)*4294967296)=((a*2^32:Nat):Int):=by rw[z12];simp only[B32]at hd0;omega
 have w5:Y2 BinOp.or u64 ((a*2^32:Nat):Int) (b:Int)=((a*B32+b:Nat):Int):=by
  rw[z5X (by simp only[B32]at hd0;omega) (by simp only[B32]at hd1;omega),z0R 32 (by simp only[B32]at hd1;omega)]
 have hq0:(a*B32+b)/ys.getD (n-1) 0≤B32+1:=(Corr.start g).up
 have w6:u64.wrap (((a*B32+b:Nat):Int).tdiv ((ys.getD (n-1) 0:Nat):Int))=(((a*B32+b)/ys.getD (n-1) 0:Nat):Int):=by
  rw[Int.tdiv_eq_ediv_of_nonneg (by omega),←Int.natCast_ediv,z12]
  generalize (a*B32+b)/ys.getD (n-1) 0=z at*
  simp only[B32]at hq0;omega
 have w7:((a*B32+b:Nat):Int).tmod ((ys.getD (n-1) 0:Nat):Int)=(((a*B32+b)%ys.getD (n-1) 0:Nat):Int):=by
  rw[Int.tmod_eq_emod_of_nonneg (by omega),←Int.natCast_emod]
 have w8:j+(n:Int).toNat*1=j+n:=by omega
 have w9:j+(((n-1:Nat):Int)).toNat*1=j+(n-1):=by omega
 refine z9H j n _ ys (by omega) (by rw[w8];exact U1 (J9 (by omega))) (by rw[en1];omega) (by rw[en1,w9];exact U1 (J9 (by omega))) (by rw[en1];omega) (by rw[en1,e1];exact J9 (by omega)) (by rw[en1,e1,w1];omega) (by rw[en1];omega) (by rw[en1,e1];exact J9 (by omega)) (by rw[en1,e1,w1];omega) (J8 _) ?_
 rw[en1,e1,w8,hdgn,hdg1,w1,w2,w3,w4,w5,w6,w7]
 have hc:=Corr.start g
 refine z7S (R:= .lent 1 (fun a b=>a= .cv (.lit (.int .u32 ((W/B32^j/val B32 ys:Nat):Int)))∧b=[some (own (j0 (Q7 B32 m (W-W/B32^j/val B32 ys*val B32 ys*B32^j))))])) rfl m W j n ys hyl hn2 hy hjm hm _ _ _ _ _ rfl rfl rfl g ?_ _ _ hc
 intro q hq hq2
 have hvpos:=g.vpos
 have hdm:=Nat.mod_add_div (W/B32^j) (val B32 ys)
 have hsplit:W/B32^j*B32^j≤W:=Nat.div_mul_le_self _ _
 have hsplit2:W<(W/B32^j+1)*B32^j:=by
  have:=Nat.lt_mul_div_succ W (Z7 j)
  rwa[Nat.mul_comm]at this
 have hmod:=Nat.mod_lt (W/B32^j) hvpos
 have hQle:W/B32^j/val B32 ys*val B32 ys*B32^j≤W:=Nat.le_trans (Nat.mul_le_mul_right _ (Nat.div_mul_le_self _ _)) hsplit
 have hQlt:W<(W/B32^j/val B32 ys+1)*val B32 ys*B32^j:=by
  refine Nat.lt_of_lt_of_le hsplit2 (Nat.mul_le_mul_right _ ?_)
  rw[Nat.add_mul,Nat.one_mul,Nat.mul_comm _ (val B32 ys)]
  omega
 refine zan rfl ⟨rfl,rfl⟩ m W j n q ys hyl hy hjm hm hq hW0 ?_ ?_ _ 0 W 0 0 rfl (Nat.zero_le _) (by decide) (by decide) rfl (by simp[val])
 · intro hle
   have:q=W/B32^j/val B32 ys:=by
    rcases hq2 with h|h
    · exact h
    · rw[h]at hle;omega
   subst this
   exact⟨rfl,rfl⟩
 · intro hgt Wf hWf hf0
   have hqq:q=W/B32^j/val B32 ys+1:=by
    rcases hq2 with h|h
    · rw[h]at hgt;omega
    · exact h
   have hq1:q-1=W/B32^j/val B32 ys:=by rw[hqq,Nat.add_sub_cancel]
   have hQ1:(W/B32^j/val B32 ys+1)*val B32 ys*B32^j=W/B32^j/val B32 ys*val B32 ys*B32^j+val B32 ys*B32^j:=by rw[Nat.add_mul,Nat.add_mul,Nat.one_mul]
   rw[hq1]
   refine z8M rfl ⟨rfl,rfl⟩ m (W-W/B32^j/val B32 ys*val B32 ys*B32^j) j n _ ys hyl hy hjm hm (g.quot_lt) ?_ Wf ?_ hf0 _ 0 Wf 0 rfl (Nat.zero_le _) (by decide) rfl (by simp[val])
   · exact⟨rfl,rfl⟩
   rw[hqq,hQ1]at hWf
   omega
theorem zeh(n:Nat)(k:Int)(xs:List Nat)(o0:(0:Int)≤i64.wrap ((n:Int)+1)∧i64.wrap ((n:Int)+1)≤i64.wrap ((n:Int)+1)∧(4:Int)*i64.wrap ((n:Int)+1)≤140737488355328∧i64.wrap ((n:Int)+1)≤4611686018427387904∧1=1)(o1:CvL (List.replicate ((i64.wrap ((n:Int)+1)).toNat*1) (.cv (.lit (.int .u32 0))))){Q:MV→List CV→Prop}(hR:Ok P 84 (loopHead P 84 0) ⟨J6 40 [(1,.cv (.lit (.int .i64 k))),(5,.sl 0 0 (i64.wrap ((n:Int)+1)).toNat 1),(12,.cv (.lst n (j0 xs))),(13,.cv (.lit (.int .i64 (n:Int)))),(14,.cv (.lit (.int .i64 0)))],[some (List.replicate ((i64.wrap ((n:Int)+1)).toNat*1) (.cv (.lit (.int .u32 0))))]⟩ (.fresh (z3F Q))):z4r P 84 [.lst n (j0 xs),.lit (.int .i64 k)] Q:=
 zbS (keep:=[1,5,12,13,14]) (σ:=[0]) (ors:=[(9,.stop)]) (by kernel_rfl) rfl (.cons o0 (.cons o1 .nil)) hR
theorem zex(n o i k:Nat)(xs zs:List Nat)(h1:decide ((i:Int)<n)=true)(o1:(0:Int)≤i∧(i:Int)<n)(o2:(j0 xs)[(i:Int).toNat*1]?=some (.lit (.int .u32 ↑(xs.getD ((i:Int).toNat*1) 0))))(o4:(0:Int)≤i∧(i:Int)<o)(o5:(own (j0 zs))[0+(i:Int).toNat*1]?=some (.cv (.lit (.int .u32 ↑(zs.getD (0+(i:Int).toNat*1) 0)))))(o7:(0:Int)≤k)(o8:(0:Int)≤i∧(i:Int)<o)(o9:0+(i:Int).toNat*1+1≤(own (j0 zs)).length)(o10:(0:Int)≤k)(o12:(0:Int)≤i64.wrap ((i:Int)+1)∧i64.wrap ((i:Int)+1)<(o:Int))(o13:0+(i64.wrap ((i:Int)+1)).toNat*1+1≤(j4 (own (j0 zs)) (0+(i:Int).toNat*1) [.cv (.lit (.int .u32 (Y2 BinOp.or u32 (↑(zs.getD (0+(i:Int).toNat*1) 0):Int) (u32.wrap ((↑(xs.getD ((i:Int).toNat*1) 0):Int)*2^min (k:Int).toNat 32)))))]).length)(o14:CvL (j4 (j4 (own (j0 zs)) (0+(i:Int).toNat*1) [.cv (.lit (.int .u32 (Y2 BinOp.or u32 (↑(zs.getD (0+(i:Int).toNat*1) 0):Int) (u32.wrap ((↑(xs.getD ((i:Int).toNat*1) 0):Int)*2^min (k:Int).toNat 32)))))]) (0+(i64.wrap ((i:Int)+1)).toNat*1) [.cv (.lit (.int .u32 (u32.wrap ((u64.wrap (u64.wrap (↑(xs.getD ((i:Int).toNat*1) 0):Int)*2^min (k:Int).toNat 64)).fdiv 4294967296))))])){R:Goal}(hn:j7 R.n [0]=true)(hR:Ok P 84 (loopHead P 84 0) ⟨J6 40 [(1,.cv (.lit (.int .i64 (k:Int)))),(5,.sl 0 0 o 1),(12,.cv (.lst n (j0 xs))),(13,.cv (.lit (.int .i64 (n:Int)))),(14,.cv (.lit (.int .i64 (i64.wrap ((i:Int)+1)))))],[some (j4 (j4 (own (j0 zs)) (0+(i:Int).toNat*1) [.cv (.lit (.int .u32 (Y2 BinOp.or u32 (↑(zs.getD (0+(i:Int).toNat*1) 0):Int) (u32.wrap ((↑(xs.getD ((i:Int).toNat*1) 0):Int)*2^min (k:Int).toNat 32)))))]) (0+(i64.wrap ((i:Int)+1)).toNat*1) [.cv (.lit (.int .u32 (u32.wrap ((u64.wrap (u64.wrap (↑(xs.getD ((i:Int).toNat*1) 0):Int)*2^min (k:Int).toNat 64)).fdiv 4294967296))))])]⟩ R):Ok P 84 (loopHead P 84 0) ⟨J6 40 [(1,.cv (.lit (.int .i64 (k:Int)))),(5,.sl 0 0 o 1),(12,.cv (.lst n (j0 xs))),(13,.cv (.lit (.int .i64 (n:Int)))),(14,.cv (.lit (.int .i64 (i:Int))))],[some (own (j0 zs))]⟩ R:=
 z4j (m:=1) (keep:=[1,5,12,13,14]) (σ:=[0]) (.b 2 h1 (.c o1 (.l 5 o2 (.c (eqn 1) (.c o4 (.e 11 o5 (.c (eqn 1) (.c o7 (.c o8 (.c o9 (.c o10 (.c (nn 32) (.c o12 (.c o13 (.o 31 .stop .nil))))))))))))))) (by kernel_rfl) rfl hn hR (.cons o14 .nil)
theorem zfD(n o i k:Nat)(xs zs:List Nat)(h1:decide ((i:Int)<n)=false)(o1:CvL (own (j0 zs))){R:Goal}(hn:R.Fresh)(hR:R.m (.sl 0 0 o 1) [some (own (j0 zs))]):Ok P 84 (loopHead P 84 0) ⟨J6 40 [(1,.cv (.lit (.int .i64 (k:Int)))),(5,.sl 0 0 o 1),(12,.cv (.lst n (j0 xs))),(13,.cv (.lit (.int .i64 (n:Int)))),(14,.cv (.lit (.int .i64 (i:Int))))],[some (own (j0 zs))]⟩ R:=
 zhj 1 (ors:=[(2,.b false),(5,.m [0] MV.unk [])]) (by kernel_rfl) (.cons h1 (.cons o1 .nil)) hn hR
end Go.Fw
