/- A part of the proof that the law returns true for every input: an executor for the model's code, and what functions of the program compute. -/
import Derived.Test.YtcafjpldfnegiaaGreatDoorB11
import Derived.Test.YtcafjpldfnegiaaGreatDoorB15
import Derived.Test.YtcafjpldfnegiaaGreatDoorB27
import Derived.Test.YtcafjpldfnegiaaGreatDoorB39
import Derived.Test.YtcafjpldfnegiaaGreatDoorB44
import Derived.Test.YtcafjpldfnegiaaGreatDoorB46
import Derived.KernelRfl
open Go IntKind
namespace Go.Fw
set_option maxRecDepth 100000
def zla(a:Nat):Nat→Nat→Nat
 |0,x=>x
 |f+1,x=>if x≤(x+a/x)/2 then x else zla a f ((x+a/x)/2)
theorem zi9(a:Nat): ∀(f x:Nat),zla a f x≤x
 |0,x=>Nat.le_refl _
 |f+1,x=>by
  unfold zla
  split
  · exact Nat.le_refl _
  · have:=zi9 a f ((x+a/x)/2);omega
theorem ziq{a b:Nat}:decide (z9m a b (dig B32 a).length (dig B32 b).length≥(0:Int))=decide (b≤a):=by
 have h:= @z7w a b
 by_cases k:b≤a
 · rw[decide_eq_true k];exact decide_eq_true (by omega)
 · rw[decide_eq_false k];exact decide_eq_false (by omega)
theorem zly {R : Goal} (hn : j7 R.n [0] = true) (a x : Nat) (h : Ok P 249 (loopHead P 249 0) ⟨J1 63 [(2, .ptr 0 0), (4, .cv (z0c a)), (6, .cv (z0c x))], [some [.cv (.lit (.bool false)), .cv (X1 ⟨#[]⟩)]]⟩ R) :
    Ok P 249 (loopHead P 249 0) ⟨J1 63 [(2,.ptr 0 0),(4,.cv (z0c a)),(6,.cv (z0c x))],[some [.cv (.lit (.bool false)),.cv (X1 ⟨#[]⟩)],none]⟩ R:=
 okS (keep:=[2,4,6]) (σ:=[0]) (ors:=[(0,Or.stop)]) (by kernel_rfl) rfl (.cons (show CvL [MV.cv (CV.lit (Value.bool false)),MV.cv (CV.lit (Value.string {data:= #[]}))]from(by simp[CvL])) .nil) hn h
theorem zcT{a b:Nat}(h:Sml a)(hb:b≤a+a+1):(dig B32 b).length<2^31:=by
 obtain⟨k,hk,hlt⟩:=h.lt
 have h1:b<256^(k+1):=by rw[Nat.pow_succ];omega
 have h2:b<B32^(k+1):=Nat.lt_of_lt_of_le h1 (Nat.pow_le_pow_left (by decide) _)
 have h3:=Q1 (b:=B32) (by decide) h2
 omega
theorem zdp {R : Goal} (hn : j7 R.n [0] = true) (a : Nat) (ha : Sml a) (ha0 : a ≠ 0) : ∀ (f x : Nat), x ≤ f → x ≠ 0 → Sml x → R.c (.tup [J2 (zla a f x : Nat), j5 0]) →
    Ok P 249 (loopHead P 249 0) ⟨J1 63 [(2,.ptr 0 0),(4,.cv (z0c a)),(6,.cv (z0c x))],[some [.cv (.lit (.bool false)),.cv (X1 ⟨#[]⟩)]]⟩ R
 |0,x,h,h0,_,_=>by omega
 |f+1,x,h,h0,hx,hR=>by
  have hd:a/x≤a:=Nat.div_le_self _ _
  have l1:=zcT ha (b:=a) (by omega)
  have l2:=zcT hx (b:=x) (by omega)
  have l3:=zcT ha (b:=a/x) (by omega)
  have hm:x+a/x≤max a x+max a x+1:=by omega
  have hmx:Sml (max a x):=by
   rcases Nat.le_total a x with k|k
   · rw[Nat.max_eq_right k];exact hx
   · rw[Nat.max_eq_left k];exact ha
  have l4:=zcT hmx hm
  have l5:=zcT hmx (b:=(x+a/x)/2) (by omega)
  simp only[B32]at l1 l2 l3 l4 l5
  unfold zla at hR
  by_cases hy:x≤(x+a/x)/2
  · rw[if_pos hy]at hR
    refine znv a x (by rw[ziq];exact decide_eq_true hy) h0 (by omega) (by omega) (by omega) (by omega) (by omega) (by decide) (by decide) (by omega) (by omega) hx ?_
    rw[show sgn false x=(x:Int)from z4d x]
    exact hR
  · rw[if_neg hy]at hR
    refine zqi a x (by rw[ziq];exact decide_eq_false hy) h0 (by omega) (by omega) (by omega) (by omega) (by omega) (by decide) (by decide) (by omega) (by omega) hn ?_
    refine zdp hn a ha ha0 f _ (by omega) ?_ (hmx.mono (by omega)) hR
    intro e
    have h1:x=1:=by
     clear l1 l2 l3 l4 l5 hd hm hy hR
     generalize a/x=q at e
     omega
    subst h1
    rw[Nat.div_one]at e
    clear l1 l2 l3 l4 l5 hd
    omega
def sqN(a:Nat):Nat:=if a=0 then 0 else zla a (2^((z0l a+1)/2)) (2^((z0l a+1)/2))
theorem zbi(k:Nat):List.replicate (k/32) 0++[2^(k%32)]=dig B32 (2^k):=by
 have hd:Dig B32 (List.replicate (k/32) 0++[2^(k%32)]):=by
  intro x hx
  rcases List.mem_append.1 hx with h|h
  · rw[(List.mem_replicate.1 h).2];decide
  · rw[List.mem_singleton.1 h]
    exact Nat.lt_of_lt_of_le (Nat.pow_lt_pow_right (by decide) (Nat.mod_lt k (show 32>0 by decide))) (by decide)
 have hv:val B32 (List.replicate (k/32) 0++[2^(k%32)])=2^k:=by
  rw[z23,z0K,List.length_replicate,Nat.zero_add]
  show B32^(k/32)*(2^(k%32)+B32*0)=_
  rw[Nat.mul_zero,Nat.add_zero,show B32=2^32 from rfl,←Nat.pow_mul,←Nat.pow_add]
  congr 1;omega
 have:=zbS (by decide) hd _ hv
 rw[←this]
 exact(z0P (Nat.ne_of_gt (Nat.pow_pos (by decide))) _).symm
theorem zd0{a n:Nat}(h:a<256^n):z0l a≤8*n:=by
 have h1:(bytesOf a).size≤n:=by rw[z0p];exact Q1 (by decide) h
 have h2:=z2r ((bytesOf a).data.getD 0 0).toNat (UInt8.toNat_lt _)
 unfold z0l
 by_cases h0:(bytesOf a).size=0
 · have ha:a=0:=Z9.1 h0
   subst ha
   rw[show(bytesOf 0).size=0 from h0]
   have:U7 ((bytesOf 0).data.getD 0 0).toNat=0:=by decide
   omega
 · omega
theorem zqr{a n:Nat}(hn:0<n)(h:a<256^n):sqN a<256^n:=by
 unfold sqN
 split
 · exact Nat.pow_pos (by decide)
 · refine Nat.lt_of_le_of_lt (zi9 _ _ _) ?_
   rw[show(256:Nat)=2^8 from rfl,←Nat.pow_mul]
   refine Nat.pow_lt_pow_right (by decide) ?_
   have:=zd0 h
   omega
theorem z6N(a:Int)(h0:0≤a)(h:Sml a.natAbs):PCall P 249 [J2 a] (.tup [J2 (sqN a.natAbs:Nat),j5 0]):=by
 have g:decide (a<0)=false:=decide_eq_false (by omega)
 by_cases hz:a=0
 · subst hz
   exact zr3 0 rfl (by rw[Y9];exact decide_eq_true (Z9.2 rfl))
 have hb:=zs8 h
 have e1:i64.wrap ((i64.wrap ((z0l a.natAbs:Int)+1)).tdiv 2)=(((z0l a.natAbs+1)/2:Nat):Int):=by
  rw[w64 (n:=(z0l a.natAbs:Int)+1) (by omega),Int.tdiv_eq_ediv_of_nonneg (by omega),w64 (by omega)];omega
 have hne:((bytesOf a.natAbs).toList==[])=false:=by
  rw[Y9]
  exact decide_eq_false (by rw[Z9];omega)
 have key := zrR a g hne h hz h (R := (· = .tup [J2 (sqN a.natAbs : Nat), j5 0]))
 simp only[e1]at key
 have hk:(z0l a.natAbs+1)/2≤4294967296:=by omega
 rw[show sqN a.natAbs=zla a.natAbs (2^((z0l a.natAbs+1)/2)) (2^((z0l a.natAbs+1)/2)) by unfold sqN;rw[if_neg (by omega)]]at key ⊢
 have hsm:Sml (2^((z0l a.natAbs+1)/2)):=by
  obtain⟨k,hk,hlt⟩:=h.lt
  have:=zd0 hlt
  refine Sml.of_lt (k:=k/2+1) (n:=2^((z0l a.natAbs+1)/2)) ?_ (by omega)
  rw[show(256:Nat)=2^8 from rfl,←Nat.pow_mul]
  exact Nat.pow_lt_pow_right (by decide) (by omega)
 generalize (z0l a.natAbs+1)/2=k at*
 have e2:i64.wrap ((k:Int).tdiv 32)=((k/32:Nat):Int):=by rw[Int.tdiv_eq_ediv_of_nonneg (by omega),w64 (by omega)];omega
 have e3:i64.wrap (((k/32:Nat):Int)+1)=((k/32+1:Nat):Int):=by rw[w64 (by omega)];omega
 have e4:(k:Int).tmod 32=((k%32:Nat):Int):=by rw[Int.tmod_eq_emod_of_nonneg (by omega)];omega
 simp only[e2,e3,e4,Int.toNat_natCast,Nat.mul_one,Nat.zero_add]at key
 have e5:u32.wrap (1*2^min (k%32) 32)=((2^(k%32):Nat):Int):=by
  have h1:(2:Nat)^(k%32)<2^32:=Nat.pow_lt_pow_right (by decide) (Nat.mod_lt k (by decide))
  rw[Nat.min_eq_left (by omega),Int.one_mul,show(2:Int)^(k%32)=((2^(k%32):Nat):Int) by simp,z87]
  generalize (2:Nat)^(k%32)=z at*
  omega
 have e6:j6 (List.replicate (k/32+1) (MV.cv (CV.lit (Value.int u32 0)))) (k/32) [MV.cv (CV.lit (Value.int u32 ((2^(k%32):Nat):Int)))]=(j8 (dig B32 (2^k))).map .cv:=by
  rw[U4,Q6 (by simp),←zbi,List.replicate_succ',List.set_append_right _ _ (by simp)]
  simp[own]
 rw[e5,e6]at key
 refine key ?_ ?_ ?_ ?_ ?_ ?_
 · exact⟨by omega,by omega,by omega,by omega,trivial⟩
 · omega
 · omega
 · simp
 · exact CvL.map_cv _
 · refine Ok.freeze (i:=1) (j:=6) rfl rfl ?_
   have hl:(dig B32 (2^k)).length=k/32+1:=by rw[←zbi];simp
   rw[←hl]
   exact zly rfl a.natAbs (2^k) (zdp rfl a.natAbs h (by omega) (2^k) (2^k) (Nat.le_refl _) (Nat.ne_of_gt (Nat.pow_pos (by decide))) hsm rfl)
theorem zry(c k:Int)(h1:decide (c.sign<0)=true)(a:(-100:Int)≤k∧k≤100)(d:Two c c)(e:(0:Int)≤k*(c*c))(f:Sml (k*(c*c)).natAbs):PCall P 225 [J2 c,j5 k] (.agg [.lit (.bool (decide (-(↑(sqN (k*(c*c)).natAbs):Int)<0))),.lit (.string (bytesOf (-(↑(sqN (k*(c*c)).natAbs):Int)).natAbs))]):=
 j3 (.r 5 (z1e k c c a d) (.r 6 (z6N (k*(c*c)) e f) (.c (lq 2 2) (.r 14 (z0m c) (.b 16 h1 (.r 18 (z0S ((↑(sqN (k*(c*c)).natAbs):Int))) (.c (lq 2 2) .nil))))))) (by kernel_rfl)
theorem zp0(c k:Int)(h1:decide (c.sign<0)=false)(a:(-100:Int)≤k∧k≤100)(d:Two c c)(e:(0:Int)≤k*(c*c))(f:Sml (k*(c*c)).natAbs):PCall P 225 [J2 c,j5 k] (.agg [.lit (.bool (decide ((↑(sqN (k*(c*c)).natAbs):Int)<0))),.lit (.string (bytesOf (↑(sqN (k*(c*c)).natAbs):Int).natAbs))]):=
 j3 (.r 5 (z1e k c c a d) (.r 6 (z6N (k*(c*c)) e f) (.c (lq 2 2) (.r 14 (z0m c) (.b 16 h1 (.c (lq 2 2) .nil)))))) (by kernel_rfl)
def rtV(c k:Int):Int:=if c<0 then-(sqN (k*(c*c)).natAbs:Int)else(sqN (k*(c*c)).natAbs:Int)
theorem ztk(c:Int):0≤c*c:=by
 rcases Int.le_total 0 c with h|h
 · exact Int.mul_nonneg h h
 · have:=Int.mul_nonneg (show 0≤ -c by omega) (show 0≤ -c by omega)
   rwa[Int.neg_mul_neg]at this
theorem zhY{c k:Int}{n:Nat}(hk:0≤k∧k≤100)(hc:By n c):By (1+(n+n)) (k*(c*c)):=(show By 1 k by unfold By;omega).mul (hc.mul hc)
theorem z3L(c k:Int)(hk:0≤k∧k≤100)(h:Two c c):PCall P 225 [J2 c,j5 k] (J2 (rtV c k)):=by
 have h0:0≤k*(c*c):=Int.mul_nonneg hk.1 (ztk c)
 have hs:Sml (k*(c*c)).natAbs:=by
  obtain⟨n,hn,hc,_⟩:=h
  exact(zhY hk hc).sml (by omega)
 by_cases hc:c<0
 · have:=zry c k (decide_eq_true (by rw[Int.sign_eq_neg_one_of_neg hc];decide)) (by omega) h h0 hs
   unfold rtV;rw[if_pos hc];exact this
 · have:=zp0 c k (decide_eq_false (by have:=Int.sign_nonneg_iff.2 (show 0≤c by omega);omega)) (by omega) h h0 hs
   unfold rtV;rw[if_neg hc];exact this
theorem zd6{c k:Int}{n:Nat}(hk:0≤k∧k≤100)(hc:By n c):By (1+(n+n)) (rtV c k):=by
 have h:=zqr (n:=1+(n+n)) (by omega) (zhY hk hc)
 unfold rtV By
 split<;>simpa using h
theorem zhq(a b:Int)(ha:SmlZ a)(hbb:Sml (b.natAbs+b.natAbs))(hb0:0<b):PCall P 226 [J2 a,J2 b] (.tup [J2 (a.fdiv b),J2 (a.fmod b),j5 0]):=by
 rw[Int.fdiv_eq_ediv_of_nonneg _ (by omega),Int.fmod_eq_emod_of_nonneg _ (by omega)]
 have hb:SmlZ b:=hbb.mono (by omega)
 by_cases hd:b∣a
 · rw[Int.emod_eq_zero_of_dvd hd]
   exact zb1 a b ha hb (by omega) hd
 obtain⟨m,rfl⟩: ∃m:Nat,b=(m:Int):=⟨b.natAbs,by omega⟩
 have hm:0<m:=by omega
 have hb':Sml m:=hb
 have l2:=hb'.dig32
 have nz: ∀z:Int,z≠0→(!(bytesOf z.natAbs).toList==[])=true:=fun z h=>by rw[Q3];simpa using h
 have e1:((bytesOf (m:Int).natAbs).toList==[])=false:=by rw[Q3];simp;omega
 rcases Int.le_total 0 a with h|h
 · obtain⟨n,rfl⟩: ∃n:Nat,a=(n:Int):=⟨a.natAbs,by omega⟩
   have ha':Sml n:=ha
   have l1:=ha'.dig32
   simp only[B32]at l1 l2
   have hr:n%m≠0:=fun e=>hd (Int.natCast_dvd_natCast.2 (Nat.dvd_of_mod_eq_zero e))
   have f1:decide ((n:Int)<0)=false:=decide_eq_false (by omega)
   have f2:decide ((m:Int)<0)=false:=decide_eq_false (by omega)
   have key:=zq9 n m e1 (nz _ (by rw[f1];show((n%m:Nat):Int)≠0;omega)) (by rw[f1,f2];rfl) ha' hb' (by simpa using Nat.ne_of_gt hm) (by simp only[Int.natAbs_natCast];omega) (by simp only[Int.natAbs_natCast];omega) (ha'.mono (Nat.div_le_self _ _)) (ha'.mono (Nat.mod_le _ _))
   rw[f1,f2]at key
   rw[←Int.natCast_ediv,←Int.natCast_emod]
   exact key
 · obtain⟨n,rfl⟩: ∃n:Nat,a= -(n:Int):=⟨a.natAbs,by omega⟩
   have ha':Sml n:=by have:=ha;unfold SmlZ at this;rwa[Int.natAbs_neg,Int.natAbs_natCast]at this
   have l1:=ha'.dig32
   simp only[B32]at l1 l2
   have hr:n%m≠0:=fun e=>hd (Int.dvd_neg.2 (Int.natCast_dvd_natCast.2 (Nat.dvd_of_mod_eq_zero e)))
   have hn0:n≠0:=fun e=>hr (by rw[e];exact Nat.zero_mod m)
   have f1:decide (-(n:Int)<0)=true:=decide_eq_true (by omega)
   have f2:decide ((m:Int)<0)=false:=decide_eq_false (by omega)
   have hlt:=Nat.mod_lt n hm
   have hm2:2≤m:=by
    rcases Nat.lt_or_ge 1 m with k|k
    · omega
    · exact absurd (show n%m=0 by rw[show m=1 by omega];exact Nat.mod_one n) hr
   have sq:n/m+1≤n:=by
    have:n/m≤n/2:=Nat.div_le_div_left hm2 (by decide)
    rcases Nat.lt_or_ge n 2 with k|k
    · rw[Nat.div_eq_of_lt (by omega)];omega
    · omega
   have sa:((sgn (!true==false) (n/m)).natAbs)=n/m:=by show(-((n/m:Nat):Int)).natAbs=_;rw[Int.natAbs_neg];rfl
   have sb:((sgn true (n%m)).natAbs)=n%m:=by show(-((n%m:Nat):Int)).natAbs=_;rw[Int.natAbs_neg];rfl
   have key:=zrQ (-(n:Int)) m e1 (nz _ (by rw[f1];show-(((-(n:Int)).natAbs%m:Nat):Int)≠0;rw[Int.natAbs_neg,Int.natAbs_natCast];omega)) (by rw[f1,f2];rfl) (by rwa[Int.natAbs_neg]) hb' (by simpa using Nat.ne_of_gt hm) (by rw[Int.natAbs_neg];simp only[Int.natAbs_natCast];omega) (by simp only[Int.natAbs_natCast];omega)
    (by rw[Int.natAbs_neg];exact ha'.mono (Nat.div_le_self _ _)) (by rw[Int.natAbs_neg];exact ha'.mono (Nat.mod_le _ _)) (by decide)
   rw[f1,f2]at key
   simp only[Int.natAbs_neg,Int.natAbs_natCast]at key
   have hq: -(n:Int)/(m:Int)=sgn (!true==false) (n/m)-1∧ -(n:Int)%(m:Int)=sgn true (n%m)+m:=by
    have dm:(m:Int)*((n/m:Nat):Int)+((n%m:Nat):Int)=n:=by rw[←Int.natCast_mul,←Int.natCast_add,Nat.div_add_mod]
    have r1: -(n:Int)=((m:Int)-((n%m:Nat):Int))+(m:Int)*(-((n/m:Nat):Int)-1):=by
     rw[Int.mul_sub,Int.mul_neg,Int.mul_one];omega
    refine⟨?_,?_⟩
    · show _= -((n/m:Nat):Int)-1
      rw[r1,Int.add_mul_ediv_left _ _ (by omega),Int.ediv_eq_zero_of_lt (by omega) (by omega)];omega
    · show _= -((n%m:Nat):Int)+m
      rw[r1,Int.add_mul_emod_self_left,Int.emod_eq_of_lt (by omega) (by omega)];omega
   rw[hq.1,hq.2]
   refine key ?_ ?_ ?_ hb ?_
   · show Sml ((sgn (!true==false) (n/m)).natAbs)
     rw[sa];exact ha'.mono (Nat.div_le_self _ _)
   · rw[sa];exact ha'.mono sq
   · show Sml ((sgn true (n%m)).natAbs)
     rw[sb];exact ha'.mono (Nat.mod_le _ _)
   · rw[sb]
     exact hbb.mono (by simp only[Int.natAbs_natCast];omega)
def iB(z:Int):List MV:=[.cv (.lit (.bool (decide (z<0)))),.cv (X1 (bytesOf z.natAbs))]
def i3B:List MV:=[.cv (j5 2),.cv (j5 3),.cv (j5 6)]
noncomputable def kBl(x:K):List MV:=own (zbb x)
theorem z3u(x:K):CvL (kBl x):=CvL.map_cv _
theorem V0(z:Int):CvL (iB z):=CvL.map_cv [.lit (.bool (decide (z<0))),X1 (bytesOf z.natAbs)]
theorem zhp:CvL i3B:=CvL.map_cv [j5 2,j5 3,j5 6]
theorem zt5(a b:Int)(h:Two a b)(hb:0<b):PCall P 226 [J2 a,J2 b] (.tup [J2 (a.fdiv b),J2 (a.fmod b),j5 0]):=by
 obtain⟨n,hn,h1,h2⟩:=h
 exact zhq a b (h1.sml (by omega)) (h2.sma h2 (by omega)) hb
theorem zrY(x:K)(s:Int)(a:(0:Int)≤2∧(2:Int)≤100)(d:Two x.c1 x.c1)(e:Two s (rtV x.c1 (2:Int))){R:Goal}(hn:j7 R.n [0,1,2,3]=true)(hR:Ok P 178 (loopHead P 178 0) ⟨J1 62 [(1,.ptr 0 0),(2,.ptr (0+1) 0),(3,.ptr (0+1+1) 0),(17,.sl (0+1+1+1) 0 3 1),(18,.cv (.lit (.int .i64 3))),(19,.cv (.lit (.int .i64 1)))],[some (kBl x),some (iB 0),some (iB (s+rtV x.c1 (2:Int))),some i3B]⟩ R):Ok P 178 (loopHead P 178 0) ⟨J1 62 [(1,.ptr 0 0),(2,.ptr 1 0),(3,.ptr 2 0),(17,.sl 3 0 3 1),(18,.cv (j5 3)),(19,.cv (j5 0))],[some (kBl x),some (iB (0:Int)),some (iB s),some i3B]⟩ R:=
 z07 (keep:=[1,2,3,17,18,19]) (σ:=[0,1,2,3]) (.c (bq 0 3) (.c (bq 1 4) (.r 15 (z3L x.c1 (2:Int) a d) (.r 16 (z70 s (rtV x.c1 (2:Int)) e) (.c (lq 2 2) (.o 20 .stop .nil)))))) (by kernel_rfl) rfl hn hR (.cons (z3u x) (.cons (V0 0) (.cons (V0 (s+rtV x.c1 (2:Int))) (.cons zhp .nil))))
theorem zqz(x:K)(s:Int)(a:(0:Int)≤3∧(3:Int)≤100)(d:Two x.c2 x.c2)(e:Two s (rtV x.c2 (3:Int))){R:Goal}(hn:j7 R.n [0,1,2,3]=true)(hR:Ok P 178 (loopHead P 178 0) ⟨J1 62 [(1,.ptr 0 0),(2,.ptr (0+1) 0),(3,.ptr (0+1+1) 0),(17,.sl (0+1+1+1) 0 3 1),(18,.cv (.lit (.int .i64 3))),(19,.cv (.lit (.int .i64 2)))],[some (kBl x),some (iB 0),some (iB (s+rtV x.c2 (3:Int))),some i3B]⟩ R):Ok P 178 (loopHead P 178 0) ⟨J1 62 [(1,.ptr 0 0),(2,.ptr 1 0),(3,.ptr 2 0),(17,.sl 3 0 3 1),(18,.cv (j5 3)),(19,.cv (j5 1))],[some (kBl x),some (iB (0:Int)),some (iB s),some i3B]⟩ R:=
 z07 (keep:=[1,2,3,17,18,19]) (σ:=[0,1,2,3]) (.c (bq 1 3) (.c (bq 2 4) (.r 15 (z3L x.c2 (3:Int) a d) (.r 16 (z70 s (rtV x.c2 (3:Int)) e) (.c (lq 2 2) (.o 20 .stop .nil)))))) (by kernel_rfl) rfl hn hR (.cons (z3u x) (.cons (V0 0) (.cons (V0 (s+rtV x.c2 (3:Int))) (.cons zhp .nil))))
theorem zrf(x:K)(s:Int)(a:(0:Int)≤6∧(6:Int)≤100)(d:Two x.c3 x.c3)(e:Two s (rtV x.c3 (6:Int))){R:Goal}(hn:j7 R.n [0,1,2,3]=true)(hR:Ok P 178 (loopHead P 178 0) ⟨J1 62 [(1,.ptr 0 0),(2,.ptr (0+1) 0),(3,.ptr (0+1+1) 0),(17,.sl (0+1+1+1) 0 3 1),(18,.cv (.lit (.int .i64 3))),(19,.cv (.lit (.int .i64 3)))],[some (kBl x),some (iB 0),some (iB (s+rtV x.c3 (6:Int))),some i3B]⟩ R):Ok P 178 (loopHead P 178 0) ⟨J1 62 [(1,.ptr 0 0),(2,.ptr 1 0),(3,.ptr 2 0),(17,.sl 3 0 3 1),(18,.cv (j5 3)),(19,.cv (j5 2))],[some (kBl x),some (iB (0:Int)),some (iB s),some i3B]⟩ R:=
 z07 (keep:=[1,2,3,17,18,19]) (σ:=[0,1,2,3]) (.c (bq 2 3) (.c (bq 3 4) (.r 15 (z3L x.c3 (6:Int) a d) (.r 16 (z70 s (rtV x.c3 (6:Int)) e) (.c (lq 2 2) (.o 20 .stop .nil)))))) (by kernel_rfl) rfl hn hR (.cons (z3u x) (.cons (V0 0) (.cons (V0 (s+rtV x.c3 (6:Int))) (.cons zhp .nil))))
theorem zrh(x:K)(s:Int)(a:Two s x.d)(e:(0:Int)<x.d)(f:(-9223372036854775808:Int)≤1∧(1:Int)≤9223372036854775807){R:Goal}(hn:j7 R.n [0,1,5,8]=true)(hR:Ok P 178 (loopHead P 178 1) ⟨J1 62 [(1,.ptr 0 0),(2,.ptr (0+1) 0),(6,.ptr (0+1+1) 0),(9,.ptr (0+1+1+1) 0)],[some (kBl x),some (iB 0),some (iB (s.fdiv x.d)),some (iB 1)]⟩ R):Ok P 178 (loopHead P 178 0) ⟨J1 62 [(1,.ptr 0 0),(2,.ptr 1 0),(3,.ptr 2 0),(17,.sl 3 0 3 1),(18,.cv (j5 3)),(19,.cv (j5 3))],[some (kBl x),some (iB (0:Int)),some (iB s),some i3B]⟩ R:=
 z07 (keep:=[1,2,6,9]) (σ:=[0,1,5,8]) (.r 6 (zt5 s x.d a e) (.c (lq 2 2) (.c (lq 2 2) (.r 16 (z0u (1:Int) f) (.c (lq 2 2) (.o 19 .stop .nil)))))) (by kernel_rfl) rfl hn hR (.cons (z3u x) (.cons (V0 0) (.cons (V0 (s.fdiv x.d)) (.cons (V0 1) .nil))))
theorem z5N(x:K):(kN x).c=Z0 x:=by rw[z1C];rfl
theorem zbe(x y:K)(hx:x.sz≤100000)(hy:y.sz≤100000):PCall P 167 [Z0 x,Z0 y] (j5 (K.sgn (x-y))):=by
 have:=zoZ (kN x) (kN y) (z3q hx) (z3q hy)
 rwa[z5N,z5N,zs6]at this
theorem z37(n:Int):PCall P 227 [J2 n] (Z0 (K.ofInt n)):=zjS n (by decide)
theorem zrW(a:Int)(h:By 100000000 a):PCall P 209 [J2 a,J2 1] (J2 (a-1)):=zdH a 1 ⟨100000000,by decide,h,(show By 1 1 from(by decide:(1:Int).natAbs<256^1)).mono (by decide)⟩
theorem zfs(a:Int)(h:By 100000000 a):PCall P 202 [J2 a,J2 1] (J2 (a+1)):=z70 a 1 ⟨100000000,by decide,h,(show By 1 1 from(by decide:(1:Int).natAbs<256^1)).mono (by decide)⟩
theorem zrM(x:K)(n:Int)(h1:decide ((K.ofInt n-x).sgn>0)=true)(a:(K.ofInt n).sz≤100000)(d:x.sz≤100000)(e:By 100000000 n){R:Goal}(hn:j7 R.n [0,1,2,3]=true)(hR:Ok P 178 (loopHead P 178 1) ⟨J1 62 [(1,.ptr 0 0),(2,.ptr (0+1) 0),(6,.ptr (0+1+1) 0),(9,.ptr (0+1+1+1) 0)],[some (kBl x),some (iB 0),some (iB (n-1)),some (iB 1)]⟩ R):Ok P 178 (loopHead P 178 1) ⟨J1 62 [(1,.ptr 0 0),(2,.ptr 1 0),(6,.ptr 2 0),(9,.ptr 3 0)],[some (kBl x),some (iB (0:Int)),some (iB n),some (iB (1:Int))]⟩ R:=
 z07 (keep:=[1,2,6,9]) (σ:=[0,1,2,3]) (.r 2 (z37 n) (.r 4 (zbe (K.ofInt n) x a d) (.b 6 h1 (.r 9 (zrW n e) (.c (lq 2 2) (.o 11 .stop .nil)))))) (by kernel_rfl) rfl hn hR (.cons (z3u x) (.cons (V0 0) (.cons (V0 (n-1)) (.cons (V0 1) .nil))))
theorem zhZ(x:K)(n:Int)(h1:decide ((K.ofInt n-x).sgn>0)=false)(a:(K.ofInt n).sz≤100000)(c:x.sz≤100000){R:Goal}(hn:j7 R.n [0,1,2,3]=true)(hR:Ok P 178 (loopHead P 178 2) ⟨J1 62 [(1,.ptr 0 0),(2,.ptr (0+1) 0),(6,.ptr (0+1+1) 0),(9,.ptr (0+1+1+1) 0)],[some (kBl x),some (iB 0),some (iB n),some (iB 1)]⟩ R):Ok P 178 (loopHead P 178 1) ⟨J1 62 [(1,.ptr 0 0),(2,.ptr 1 0),(6,.ptr 2 0),(9,.ptr 3 0)],[some (kBl x),some (iB (0:Int)),some (iB n),some (iB (1:Int))]⟩ R:=
 z07 (keep:=[1,2,6,9]) (σ:=[0,1,2,3]) (.r 2 (z37 n) (.r 4 (zbe (K.ofInt n) x a c) (.b 6 h1 (.o 7 .stop .nil)))) (by kernel_rfl) rfl hn hR (.cons (z3u x) (.cons (V0 0) (.cons (V0 n) (.cons (V0 1) .nil))))
theorem zoD(x:K)(n:Int)(h1:decide ((K.ofInt (n+1)-x).sgn≤0)=true)(a:By 100000000 n)(d:(K.ofInt (n+1)).sz≤100000)(e:x.sz≤100000)(f:By 100000000 n){R:Goal}(hn:j7 R.n [0,1,2,3]=true)(hR:Ok P 178 (loopHead P 178 2) ⟨J1 62 [(1,.ptr 0 0),(2,.ptr (0+1) 0),(6,.ptr (0+1+1) 0),(9,.ptr (0+1+1+1) 0)],[some (kBl x),some (iB 0),some (iB (n+1)),some (iB 1)]⟩ R):Ok P 178 (loopHead P 178 2) ⟨J1 62 [(1,.ptr 0 0),(2,.ptr 1 0),(6,.ptr 2 0),(9,.ptr 3 0)],[some (kBl x),some (iB (0:Int)),some (iB n),some (iB (1:Int))]⟩ R:=
 z07 (keep:=[1,2,6,9]) (σ:=[0,1,2,3]) (.r 3 (zfs n a) (.r 4 (z37 (n+1)) (.r 6 (zbe (K.ofInt (n+1)) x d e) (.b 8 h1 (.r 11 (zfs n f) (.c (lq 2 2) (.o 13 .stop .nil))))))) (by kernel_rfl) rfl hn hR (.cons (z3u x) (.cons (V0 0) (.cons (V0 (n+1)) (.cons (V0 1) .nil))))
theorem zi6(x:K)(n:Int)(h1:decide ((K.ofInt (n+1)-x).sgn≤0)=false)(a:By 100000000 n)(d:(K.ofInt (n+1)).sz≤100000)(e:x.sz≤100000){R:Goal}(hR:R.c ((J2 n))):Ok P 178 (loopHead P 178 2) ⟨J1 62 [(1,.ptr 0 0),(2,.ptr 1 0),(6,.ptr 2 0),(9,.ptr 3 0)],[some (kBl x),some (iB (0:Int)),some (iB n),some (iB (1:Int))]⟩ R:=
 okT (.r 3 (zfs n a) (.r 4 (z37 (n+1)) (.r 6 (zbe (K.ofInt (n+1)) x d e) (.b 8 h1 (.c (lq 2 2) .nil))))) (by kernel_rfl) hR
theorem zo6(x:K)(a:Smk x){R:CV→Prop}(hR:Ok P 178 (loopHead P 178 0) ⟨J1 62 [(1,.ptr 0 0),(2,.ptr (0+1) 0),(3,.ptr (0+1+1) 0),(17,.sl (0+1+1+1) 0 3 1),(18,.cv (.lit (.int .i64 3))),(19,.cv (.lit (.int .i64 0)))],[some (kBl x),some (iB 0),some (iB x.c0),some i3B]⟩ (.of R)):Y3 P 178 [Z0 x] R:=
 Z6 (keep:=[1,2,3,17,18,19]) (σ:=[0,1,3,4]) (.r 3 (z0j x a) (.c (bq 0 4) (.c (lq 2 2) (.o 14 .stop .nil)))) (by kernel_rfl) rfl hR (.cons (z3u x) (.cons (V0 0) (.cons (V0 x.c0) (.cons zhp .nil))))
theorem By.mid{n:Nat}{a b c:Int}(ha:By n a)(hb:By n b)(h1:a≤c)(h2:c≤b):By n c:=by unfold By at*;omega
theorem By.szI{n:Nat}{a:Int}(h:By n a)(hn:0<n):(K.ofInt a).sz≤n:=K.sz_int a hn h
theorem zo3{x:K}{n:Nat}(h:x.sz≤n):By (n+1) x.fl:=by
 obtain⟨h0,h1,h2,h3,_⟩:=By.of_sz h
 obtain⟨l,u⟩:=x.fl_b
 unfold By at*
 unfold K.bnd at l u
 rw[Nat.pow_succ]
 generalize 256^n=z at*
 omega
noncomputable def ztS(x:K)(n:Int):St:=⟨J1 62 [(1,.ptr 0 0),(2,.ptr 1 0),(6,.ptr 2 0),(9,.ptr 3 0)],[some (kBl x),some (iB 0),some (iB n),some (iB 1)]⟩
theorem zoS{R:Goal}(hn:j7 R.n [0,1,2,3]=true){x:K}(hx:x.sz≤20000)(hR:R.c (J2 x.fl)): ∀(k:Nat) (n:Int),x.fl-n≤k→n≤x.fl→By 50000 n→Ok P 178 (loopHead P 178 2) (ztS x n) R:=by
 intro k
 induction k with
 |zero=>
  intro n h1 h2 h3
  have hs:(K.ofInt (n+1)).sz≤100000:=Nat.le_trans (((h3.add ((show By 1 1 from(by decide:(1:Int).natAbs<256^1)).mono (by decide:1≤50000)))).szI (by decide)) (by decide)
  obtain rfl:n=x.fl:=by omega
  refine zi6 x x.fl (decide_eq_false ?_) (h3.mono (by decide)) hs (by omega) hR
  have:=K.fl_lt.2 (show x.fl<x.fl+1 by omega)
  omega
 |succ k ih=>
  intro n h1 h2 h3
  have hs:(K.ofInt (n+1)).sz≤100000:=Nat.le_trans (((h3.add ((show By 1 1 from(by decide:(1:Int).natAbs<256^1)).mono (by decide:1≤50000)))).szI (by decide)) (by decide)
  by_cases h:n=x.fl
  · subst h
    refine zi6 x x.fl (decide_eq_false ?_) (h3.mono (by decide)) hs (by omega) hR
    have:=K.fl_lt.2 (show x.fl<x.fl+1 by omega)
    omega
  · refine zoD x n (decide_eq_true ?_) (h3.mono (by decide)) hs (by omega) (h3.mono (by decide)) hn (ih (n+1) (by omega) (by omega) (h3.mid ((zo3 hx).mono (by decide)) (by omega) (by omega)))
    have a:=mt (K.fl_lt (x:=x) (m:=n+1)).1 (by omega)
    have:=K.sgn_vals (K.ofInt (n+1)-x)
    omega
theorem zt3{R:Goal}(hn:j7 R.n [0,1,2,3]=true){x:K}(hx:x.sz≤20000)(hR:R.c (J2 x.fl)): ∀(k:Nat) (n:Int),n-x.fl≤k→By 50000 n→Ok P 178 (loopHead P 178 1) (ztS x n) R:=by
 intro k
 induction k with
 |zero=>
  intro n h1 h3
  have hs:(K.ofInt n).sz≤100000:=Nat.le_trans (h3.szI (by decide)) (by decide)
  have a:=mt (K.fl_lt (x:=x) (m:=n)).1 (by omega)
  have:=K.sgn_vals (K.ofInt n-x)
  exact zhZ x n (decide_eq_false (by omega)) hs (by omega) hn (zoS hn hx hR (x.fl-n).toNat n (by omega) (by omega) h3)
 |succ k ih=>
  intro n h1 h3
  have hs:(K.ofInt n).sz≤100000:=Nat.le_trans (h3.szI (by decide)) (by decide)
  by_cases h:x.fl<n
  · have a:=K.fl_lt.2 h
    exact zrM x n (decide_eq_true (by omega)) hs (by omega) (h3.mono (by decide)) hn (ih (n-1) (by omega) (((zo3 hx).mono (by decide)).mid h3 (by omega) (by omega)))
  · have a:=mt (K.fl_lt (x:=x) (m:=n)).1 h
    have:=K.sgn_vals (K.ofInt n-x)
    exact zhZ x n (decide_eq_false (by omega)) hs (by omega) hn (zoS hn hx hR (x.fl-n).toNat n (by omega) (by omega) h3)
theorem zjt{a b:Int}{n:Nat}(h:By n a)(hb:0<b):By n (a.fdiv b):=by
 unfold By at*
 rw[Int.fdiv_eq_ediv_of_nonneg _ (by omega)]
 have h1:=Int.ediv_mul_le a (show b≠0 by omega)
 have h2:=Int.lt_ediv_add_one_mul_self a hb
 rcases Int.le_total 0 a with k|k
 · have h3:=Int.ediv_nonneg k (show 0≤b by omega)
   have:a/b≤a:=Int.ediv_le_self _ k
   omega
 · have h3 : a ≤ a / b := by
     refine Int.le_ediv_of_mul_le hb ?_
     have:=Int.mul_nonneg (show 0≤b-1 by omega) (show 0≤ -a by omega)
     rw[Int.mul_neg,Int.sub_mul,Int.one_mul,Int.mul_comm]at this
     omega
   have h4:a/b≤0:=by
    have:=Int.ediv_le_ediv hb k
    simpa using this
   omega
theorem zhv(x:K)(hx:x.sz≤20000):PCall P 178 [Z0 x] (J2 x.fl):=by
 obtain⟨h0,h1,h2,h3,h4⟩:=By.of_sz hx
 have r1:By 40001 (rtV x.c1 2):=zd6 (by decide) h1
 have r2:By 40001 (rtV x.c2 3):=zd6 (by decide) h2
 have r3:By 40001 (rtV x.c3 6):=zd6 (by decide) h3
 have s1:By 40002 (x.c0+rtV x.c1 2):=(h0.mono (by decide)).add r1
 have s2:By 40003 (x.c0+rtV x.c1 2+rtV x.c2 3):=s1.add (r2.mono (by decide))
 have s3:By 40004 (x.c0+rtV x.c1 2+rtV x.c2 3+rtV x.c3 6):=s2.add (r3.mono (by decide))
 have two: ∀{a b:Int},By 50000 a→By 50000 b→Two a b:=fun ha hb=>⟨50000,by decide,ha,hb⟩
 refine Y6 (zo6 x ?_ ?_)
 · exact Nat.lt_of_le_of_lt hx (by decide)
 refine zrY x x.c0 (by decide) (two (h1.mono (by decide)) (h1.mono (by decide))) (two (h0.mono (by decide)) (r1.mono (by decide))) rfl ?_
 refine zqz x _ (by decide) (two (h2.mono (by decide)) (h2.mono (by decide))) (two (s1.mono (by decide)) (r2.mono (by decide))) rfl ?_
 refine zrf x _ (by decide) (two (h3.mono (by decide)) (h3.mono (by decide))) (two (s2.mono (by decide)) (r3.mono (by decide))) rfl ?_
 refine zrh x _ (two (s3.mono (by decide)) (h4.mono (by decide))) x.pos (by decide) rfl ?_
 exact zt3 rfl hx rfl _ _ (Int.self_le_toNat _) (zjt (s3.mono (by decide)) x.pos)
theorem zp1(l:List (Int×Int))(m:VN)(h1:((z1W l m).2 != 0)=true)(a:l.length<2^30)(d:VN.raw 10000 m=true):PCall P 114 [rdV l,m.c] (.tup [.agg U6,.lit (.int .i64 (z1W l m).2)]):=
 j3 (.r 5 (z7c l m a d) (.b 13 h1 (.c (lq 10 10) .nil))) (by kernel_rfl)
theorem znf(l:List (Int×Int))(m:VN)(h1:((z1W l m).2 != 0)=false)(a:l.length<2^30)(d:VN.raw 10000 m=true)(e:(-9223372036854775808:Int)≤0∧(0:Int)≤9223372036854775807){R:CV→Prop}(hR:Ok P 114 (loopHead P 114 0) ⟨J1 39 [(4,.ptr 0 0),(6,.cv (.lst (z1W l m).1.length (flat RN.l (z1W l m).1))),(8,.ptr (0+1) 0),(9,.cv (.lit (.int .i64 0)))],[some [.cv (.lit (.bool false)),.cv (.lit (.string {data:= #[]})),.cv (.lit (.bool false)),.cv (.lit (.string {data:= #[]})),.cv (.lit (.bool false)),.cv (.lit (.string {data:= #[]})),.cv (.lit (.bool false)),.cv (.lit (.string {data:= #[]})),.cv (.lit (.bool false)),.cv (.lit (.string {data:= #[]}))],some [.cv (.lit (.bool (oN (0:Int)).b0)),.cv (.lit (.string (oN (0:Int)).s0)),.cv (.lit (.bool (oN (0:Int)).b1)),.cv (.lit (.string (oN (0:Int)).s1)),.cv (.lit (.bool (oN (0:Int)).b2)),.cv (.lit (.string (oN (0:Int)).s2)),.cv (.lit (.bool (oN (0:Int)).b3)),.cv (.lit (.string (oN (0:Int)).s3)),.cv (.lit (.bool (oN (0:Int)).b4)),.cv (.lit (.string (oN (0:Int)).s4))]]⟩ (.of R)):Y3 P 114 [rdV l,m.c] R:=
 Z6 (keep:=[4,6,8,9]) (σ:=[1,4]) (.r 5 (z7c l m a d) (.b 13 h1 (.r 14 (zgv (0:Int) e) (.c (lq 10 10) (.o 18 .stop .nil))))) (by kernel_rfl) rfl hR (.cons (by simp[CvL]) (.cons (by simp[CvL]) .nil))
theorem zqD(xs:List RN)(h1:((↑xs.length:Int) != (↑xs.length:Int))=false){R:CV→Prop}(hR:Ok P 119 (loopHead P 119 0) ⟨J1 26 [(0,.cv (.lst xs.length (flat RN.l xs))),(1,.cv (.lst xs.length (flat RN.l xs))),(5,.cv (.lit (.int .i64 0)))],[]⟩ (.of R)):Y3 P 119 [nmV xs,nmV xs] R:=
 Z6 (keep:=[0,1,5]) (σ:=[]) (.b 6 h1 (.o 8 .stop .nil)) (by kernel_rfl) rfl hR .nil
theorem zpJ(a b c d e:Int)(h1:(e.sign==0)=false)(f:SmlZ a)(g:SmlZ b)(i:SmlZ c)(j:SmlZ d)(k:SmlZ e)(l:e≠0):PCall P 224 [c4C a b c d,J2 e] (.tup [Z0 (K.of a b c d e),.lit (.int .i64 0)]):=
 j3 (.c (bq 0 4) (.c (lq 2 2) (.r 13 (J7 a) (.c (bq 1 4) (.c (lq 2 2) (.r 25 (J7 b) (.c (bq 2 4) (.c (lq 2 2) (.r 37 (J7 c) (.c (bq 3 4) (.c (lq 2 2) (.r 49 (J7 d) (.r 58 (J7 e) (.r 63 (z0m e) (.b 66 h1 (.r 69 (z5q a b c d e f g i j k l) (.c (lq 10 10) .nil))))))))))))))))) (by kernel_rfl)
theorem zml(n d:Int)(hn:SmlZ n)(hd:SmlZ d)(h0:d≠0):PCall P 224 [.agg [.lit (.bool (decide (n<0))),X1 (bytesOf n.natAbs),.lit (.bool false),X1 ⟨#[]⟩,.lit (.bool false),X1 ⟨#[]⟩,.lit (.bool false),X1 ⟨#[]⟩],J2 d] (.tup [Z0 (K.of n 0 0 0 d),j5 0]):=
 have z:SmlZ 0:=z0q (by decide)
 zpJ n 0 0 0 d (beq_false_of_ne (fun e=>h0 (Int.sign_eq_zero_iff_zero.1 e))) hn z z z hd h0
theorem zjU(n d:Int)(hn:n.natAbs<256^7)(hd:d.natAbs<256^7)(h0:d≠0):PCall P 191 [.agg [.lit (.bool (decide (n<0))),X1 (bytesOf n.natAbs),.lit (.bool false),X1 ⟨#[]⟩,.lit (.bool false),X1 ⟨#[]⟩,.lit (.bool false),X1 ⟨#[]⟩],J2 d] (.tup [Z0 (K.of n 0 0 0 d),j5 0]):=
 zdh n 0 0 0 d h0 hn (by decide) (by decide) (by decide) hd
theorem zkX(xs:List RN)(s mx:RN)(k:Int)(h1:decide (k<(↑xs.length:Int))=true)(a d:RN.raw 1000000 mx=true)(e:RN.raw 1000000 s=true)(f:RN.raw 1000000 (z9k mx mx)=true)(o1:(0:Int)≤k∧k<(↑xs.length:Int))(o2:List.take 10 (List.drop (k.toNat*10) (flat RN.l xs))=(RN.l mx))(o4:(0:Int)≤k∧k<(↑xs.length:Int))(o5:List.take 10 (List.drop (k.toNat*10) (flat RN.l xs))=(RN.l mx)){R:Goal}(hn:j7 R.n [0,1]=true)(hR:Ok P 114 (loopHead P 114 0) ⟨J1 39 [(4,.ptr 0 0),(6,.cv (.lst xs.length (flat RN.l xs))),(8,.ptr (0+1) 0),(9,.cv (.lit (.int .i64 (i64.wrap (k+1)))))],[some (own (RN.l (RN.zero))),some (own (RN.l (z3l s (z9k mx mx))))]⟩ R):Ok P 114 (loopHead P 114 0) ⟨J1 39 [(4,.ptr 0 0),(6,.cv (nmV xs)),(8,.ptr 1 0),(9,.cv (j5 k))],[some (own RN.zero.l),some (own s.l)]⟩ R:=
 z07 (keep:=[4,6,8,9]) (σ:=[0,1]) (.b 5 h1 (.c o1 (.c o2 (.c (eqn 10) (.c o4 (.c o5 (.c (eqn 10) (.c (zrH mx mx a d) (.c (ziv s (z9k mx mx) e f) (.c (lq 10 10) (.o 10 (.r mx.c) (.o 14 (.r mx.c) (.o 15 (.r (RN.c (z9k mx mx))) (.o 16 (.r (RN.c (z3l s (z9k mx mx)))) (.o 21 .stop .nil))))))))))))))) (by kernel_rfl) rfl hn hR (.cons (J0 _) (.cons (CvL.map_cv _) .nil))
theorem zjA(xs:List RN)(s _mx:RN)(k:Int)(h1:decide (k<(↑xs.length:Int))=false){R:Goal}(hR:R.c (.tup [RN.c s,.lit (.int .i64 0)])):Ok P 114 (loopHead P 114 0) ⟨J1 39 [(4,.ptr 0 0),(6,.cv (nmV xs)),(8,.ptr 1 0),(9,.cv (j5 k))],[some (own RN.zero.l),some (own s.l)]⟩ R:=
 okT (.b 5 h1 (.c (lq 10 10) .nil)) (by kernel_rfl) hR
theorem ziI(xs:List RN)(mx:RN)(k:Int)(h1:decide (k<(↑xs.length:Int))=true)(h2:(!(rnB mx mx))=false)(o1:(0:Int)≤k∧k<(↑xs.length:Int))(o2:List.take 10 (List.drop (k.toNat*10) (flat RN.l xs))=(RN.l mx))(o4:(0:Int)≤k∧k<(↑xs.length:Int))(o5:List.take 10 (List.drop (k.toNat*10) (flat RN.l xs))=(RN.l mx)){R:Goal}(hn:j7 R.n []=true)(hR:Ok P 119 (loopHead P 119 0) ⟨J1 26 [(0,.cv (.lst xs.length (flat RN.l xs))),(1,.cv (.lst xs.length (flat RN.l xs))),(5,.cv (.lit (.int .i64 (i64.wrap (k+1)))))],[]⟩ R):Ok P 119 (loopHead P 119 0) ⟨J1 26 [(0,.cv (nmV xs)),(1,.cv (nmV xs)),(5,.cv (j5 k))],[]⟩ R:=
 z07 (keep:=[0,1,5]) (σ:=[]) (.b 5 h1 (.c o1 (.c o2 (.c (eqn 10) (.c o4 (.c o5 (.c (eqn 10) (.o 9 (.r mx.c) (.o 13 (.r mx.c) (.b 15 h2 (.o 19 .stop .nil))))))))))) (by kernel_rfl) rfl hn hR .nil
theorem zjp(xs:List RN)(_mx:RN)(k:Int)(h1:decide (k<(↑xs.length:Int))=false){R:Goal}(hR:R.c (.lit (.bool true))):Ok P 119 (loopHead P 119 0) ⟨J1 26 [(0,.cv (nmV xs)),(1,.cv (nmV xs)),(5,.cv (j5 k))],[]⟩ R:=
 okT (.b 5 h1 .nil) (by kernel_rfl) hR
theorem zrp(n d:Int)(a:(-9223372036854775808:Int)≤n∧n≤9223372036854775807)(e:(-9223372036854775808:Int)≤d∧d≤9223372036854775807)(f:SmlZ n)(g:SmlZ d)(i:d≠0):PCall P 177 [j5 n,j5 d] (.tup [Z0 (K.of n (0:Int) (0:Int) (0:Int) d),.lit (.int .i64 0)]):=
 j3 (.r 3 (z0u n a) (.r 6 (z0u d e) (.r 7 (zml n d f g i) (.c (lq 10 10) .nil)))) (by kernel_rfl)
theorem znz(n d:Int)(a:(-9223372036854775808:Int)≤n∧n≤9223372036854775807)(e:(-9223372036854775808:Int)≤d∧d≤9223372036854775807)(f:n.natAbs<256^7)(g:d.natAbs<256^7)(i:d≠0):PCall P 179 [j5 n,j5 d] (.tup [Z0 (K.of n (0:Int) (0:Int) (0:Int) d),.lit (.int .i64 0)]):=
 j3 (.r 3 (Z5 n a) (.r 6 (Z5 d e) (.r 7 (zjU n d f g i) (.c (lq 10 10) .nil)))) (by kernel_rfl)
end Go.Fw
