/- A part of the proof that the law returns true for every input: an executor for the model's code, and what functions of the program compute. -/
import Derived.Test.YtcafjpldfnegiaaGreatDoorB11
import Derived.Test.YtcafjpldfnegiaaGreatDoorB15
import Derived.Test.YtcafjpldfnegiaaGreatDoorB16
import Derived.Test.YtcafjpldfnegiaaGreatDoorB20
import Derived.Test.YtcafjpldfnegiaaGreatDoorB28
import Derived.Test.YtcafjpldfnegiaaGreatDoorB29
import Derived.KernelRfl
open Go IntKind
namespace Go.Fw
set_option maxRecDepth 100000
theorem z6n{xs:List Nat}{j n m:Nat}(_h:j+n≤xs.length)(hm:m<n):((xs.drop j).take n).getD m 0=xs.getD (j+m) 0:=by
 simp[List.getD_eq_getElem?_getD,List.getElem?_drop,hm]
theorem z3x{xs:List Nat}{j n m:Nat}(hd:Dig B24 xs)(h:j+n≤xs.length)(hm:m<n):xs.getD (j+m) 0=val B24 ((xs.drop j).take n)/B24^m%B24:=by
 rw[←z6n h hm]
 have hdd:Dig B24 ((xs.drop j).take n):=(hd.drop j).take n
 have hl:((xs.drop j).take n).length=n:=by simp;omega
 have:=z64 (by decide:0<B24) _ hdd
 rw[hl]at this
 conv=>lhs;rw[this]
 rw[X8 _ _ _ _ hm]
section
variable{R:Goal}(hn:j9 R.n [0]=true)(hL:R.Lent 1)
include hn hL
omit hn in
theorem zgk (xs : List Nat) (j n c k w : Nat) (hj : j + n ≤ xs.length) (hl : xs.length < 2 ^ 40) (hc : c + k < 2 ^ 60) (hw : w < B24 ^ n)
    (hR:R.m (.tup [.sl 0 j (dig B24 w).length 1,(.cv (j7 ((c:Int)+k)))]) [some (own (j3 (Y9 xs j n w)))]):
    Ok P 231 (loopHead P 231 2) ⟨J3 62 [(0,.sl 0 j n 1),(4,.cv (j7 (c:Int))),(5,.cv (j7 (k:Int))),(6,.cv (j7 (n:Int)))],[some (own (j3 (Y9 xs j n w)))]⟩ R:=by
 have hl2:=z3i (w:=w) hj
 refine ziq j n c k n (Y9 xs j n w) (decide_eq_false (by omega)) (by omega) (by omega) (BlksCv.two (J0 _) (J0 _)) (BlksCv.one (J0 _)) hL ?_
 rw[z5z hj,z0W (by decide:2≤B24) _ (z0e (by decide) _ _),z0n,Nat.mod_eq_of_lt hw,w64 (by omega)]
 exact hR
theorem ze7 (xs : List Nat) (hd : Dig B24 xs) (j n c k u w : Nat) (hk : k < 24) (hu : u = 2 ^ k * w) (hw2 : w % 2 = 1) (hn0 : 0 < n) (huv : val B24 ((xs.drop j).take n) = u) (hj : j + n ≤ xs.length) (hl : xs.length < 2 ^ 40) (hc : c < 2 ^ 50)
    (hR:R.m (.tup [.sl 0 j (dig B24 w).length 1,.cv (j7 ((c:Int)+k))]) [some (own (j3 (Y9 xs j n w)))]):
    ∀(d i:Nat),i+d=k→Ok P 231 (loopHead P 231 1) ⟨J3 62 [(0,.sl 0 j n 1),(4,.cv (j7 (c:Int))),(5,.cv (j7 (i:Int)))],[some (own (j3 xs))]⟩ R:=by
 have hx0:xs.getD (j+0) 0=u%B24:=by
  have:=z3x hd hj hn0
  rw[huv,Nat.pow_zero,Nat.div_one]at this
  exact this
 have hg:=X1 (W7 (xs:=xs) (i:=j+0) (by omega))
 have hbit: ∀i,i≤k→X5 .and .i64 (((xs.getD (j+0) 0:Nat):Int).fdiv (2^min (i:Int).toNat 64)) 1=((u/2^i%2:Nat):Int):=by
  intro i hi
  have hfd:((xs.getD (j+0) 0:Nat):Int).fdiv (2^min (i:Int).toNat 64)=((xs.getD (j+0) 0/2^i:Nat):Int):=by
   rw[Int.toNat_natCast,Nat.min_eq_left (by omega)]
   have h2:(0:Int)<2^i:=Int.pow_pos (by decide)
   rw[Int.fdiv_eq_ediv_of_nonneg _ (by omega)]
   norm_cast
  have hlt:xs.getD (j+0) 0<B24:=hd.get (by decide) _
  have hle:=Nat.div_le_self (xs.getD (j+0) 0) (2^i)
  rw[hfd,zoC _ (by simp only[B24]at hlt;omega),hx0,zcK u i (by omega)]
 intro d
 induction d with
 |zero=>
  intro i hi
  have:i=k:=by omega
  subst this
  have hodd:u/2^i%2=1:=by rw[hu,Nat.mul_div_cancel_left _ (Nat.pow_pos (by decide)),hw2]
  refine zhm j n c i xs (by rw[hbit i (Nat.le_refl _),hodd];rfl) (by omega) hg (by omega) hn ?_
  have hub:u<B24^n:=by
   rw[←huv]
   have:=z0s (by decide:0<B24) _ ((hd.drop j).take n)
   rwa[show((xs.drop j).take n).length=n by simp;omega]at this
  have hwb:w<B24^n:=by
   refine Nat.lt_of_le_of_lt ?_ hub
   rw[hu];exact Nat.le_mul_of_pos_left _ (Nat.pow_pos (by decide))
  refine z4K hn xs j n c i u w hk hu hub (fun m hm=>by rw[←huv];exact z3x hd hj hm) hj hl hc ?_ n 0 xs (by omega) rfl (fun m _=>by rw[if_neg (by omega)])
  intro zs hz
  subst hz
  exact zgk hL xs j n c i w hj hl (by omega) hwb hR
 |succ d ih=>
  intro i hi
  have heven:u/2^i%2=0:=by
   have:u=2^i*(2*(2^(k-i-1)*w)):=by
    rw[hu,←Nat.mul_assoc,←Nat.mul_assoc,←Nat.pow_succ,←Nat.pow_add,show i+1+(k-i-1)=k by omega]
   rw[this,Nat.mul_div_cancel_left _ (Nat.pow_pos (by decide)),Nat.mul_mod_right]
  refine zjm j n c i xs (by rw[hbit i (by omega),heven];rfl) (by omega) hg (by omega) hn ?_
  rw[w64 (by omega)]
  exact ih (i+1) (by omega)
theorem za1 (n0 t w : Nat) (hw2 : w % 2 = 1) (xs : List Nat) (hd : Dig B24 xs) (hl : xs.length < 2 ^ 40) (j0 : Nat)
    (hR: ∀j n c,j+n=j0+n0→c+0=24*(j-j0)→j0≤j→j-j0=t/24→R.m (.tup [.sl 0 j (dig B24 w).length 1,.cv (j7 ((c:Int)+((t%24:Nat):Int)))]) [some (own (j3 (Y9 xs j n w)))]):
    ∀(s j n c:Nat),t=24*(j-j0)+s→j+n=j0+n0→c=24*(j-j0)→j0≤j→j+n≤xs.length→val B24 ((xs.drop j).take n)=2^s*w→
     Ok P 231 (loopHead P 231 0) ⟨J3 62 [(0,.sl 0 j n 1),(4,.cv (j7 (c:Int)))],[some (own (j3 xs))]⟩ R:=by
 intro s
 induction s using Nat.strongRecOn with
 |_ s ih=>
  intro j n c ht hjn hc hj0 hj hv
  have hpos:0<2^s*w:=Nat.mul_pos (Nat.pow_pos (by decide)) (by omega)
  have hn0:0<n:=by
   rcases Nat.eq_zero_or_pos n with h|h
   · subst h;rw[List.take_zero]at hv;simp only[val]at hv;omega
   · exact h
  have hx0:xs.getD (j+0) 0=2^s*w%B24:=by
   have:=z3x hd hj hn0
   rw[hv,Nat.pow_zero,Nat.div_one]at this
   exact this
  have hg:=X1 (W7 (xs:=xs) (i:=j+0) (by omega))
  by_cases h24:24≤s
  · have e : 2 ^ s * w = B24 * (2 ^ (s - 24) * w) := by
      rw[←Nat.mul_assoc,show(B24:Nat)=2^24 by decide,←Nat.pow_add,show 24+(s-24)=s by omega]
    have hz:xs.getD (j+0) 0=0:=by rw[hx0,e,Nat.mul_mod_right]
    have hsp:(xs.drop j).take n=xs.getD (j+0) 0::(xs.drop (j+1)).take (n-1):=by
     have hlt:j<xs.length:=by omega
     rw[List.drop_eq_getElem_cons hlt,show n=n-1+1 by omega,List.take_succ_cons,Nat.add_zero]
     simp[List.getD_eq_getElem?_getD,List.getElem?_eq_getElem hlt]
    have hv2:val B24 ((xs.drop (j+1)).take (n-1))=2^(s-24)*w:=by
     rw[hsp,hz]at hv
     simp only[val]at hv
     rw[e,Nat.zero_add]at hv
     exact Nat.eq_of_mul_eq_mul_left (by decide) hv
    have hp2:0<2^(s-24)*w:=Nat.mul_pos (Nat.pow_pos (by decide)) (by omega)
    have hn1:0<n-1:=by
     rcases Nat.eq_zero_or_pos (n-1)with h|h
     · rw[h,List.take_zero]at hv2;simp only[val]at hv2;omega
     · exact h
    refine zjH j n c xs (beq_iff_eq.2 (by omega)) (by omega) hg (by omega) hn ?_
    rw[w64 (by omega),show((n:Int)-1).toNat=n-1 by omega,show(c:Int)+24=((c+24:Nat):Int) by omega]
    exact ih (s-24) (by omega) (j+1) (n-1) (c+24) (by omega) (by omega) (by omega) (by omega) (by omega) hv2
  · have hnz : xs.getD (j + 0) 0 ≠ 0 := by
      rw[hx0]
      intro h
      have hb:=zcK (2^s*w) s (by omega)
      rw[h,Nat.zero_div,Nat.mul_div_cancel_left _ (Nat.pow_pos (by decide)),hw2]at hb
      simp at hb
    refine ziE j n c xs (beq_eq_false_iff_ne.2 (by omega)) (by omega) hg hn ?_
    have hts:t%24=s∧j-j0=t/24:=by omega
    refine ze7 hn hL xs hd j n c s (2^s*w) w (by omega) rfl hw2 hn0 hv hj hl (by omega) ?_ s 0 (by omega)
    have:=hR j n c hjn (by omega) hj0 hts.2
    rwa[hts.1]at this
end
theorem z7N (xs : List Nat) (hd : Dig B24 xs) (hl : xs.length < 2 ^ 40) (n t w : Nat) (hn : n ≤ xs.length) (hv : val B24 (xs.take n) = 2 ^ t * w) (hw : w % 2 = 1) :
    z1K P 231 [some (own (j3 xs))] [.sl 0 0 n 1] (.tup [.sl 0 (t/24) (dig B24 w).length 1,.cv (j7 (t:Int))]) [some (own (j3 (Y9 xs (t/24) (n-t/24) w)))]:=by
 refine zkZ n xs ?_
 refine za1 (R:= .lent 1 _) rfl ⟨rfl,rfl⟩ n t w hw xs hd hl 0 ?_ t 0 n 0 (by omega) (by omega) (by omega) (by omega) (by omega) (by rw[List.drop_zero];exact hv)
 intro j m c h1 h2 _ h4
 have hj:j=t/24:=by omega
 subst hj
 have e1:(c:Int)+((t%24:Nat):Int)=(t:Int):=by omega
 have e2:m=n-t/24:=by omega
 rw[e1,e2]
 exact⟨rfl,rfl⟩
theorem z4G (t w : Nat) (hw : w % 2 = 1) (hl : (dig B24 (2 ^ t * w)).length < 2 ^ 40) : z1K P 231 [some (own (j3 (dig B24 (2 ^ t * w))))] [.sl 0 0 (dig B24 (2 ^ t * w)).length 1]
    (.tup [.sl 0 (t/24) (dig B24 w).length 1,.cv (j7 (t:Int))]) [some (own (j3 (Y9 (dig B24 (2^t*w)) (t/24) ((dig B24 (2^t*w)).length-t/24) w)))]:=
 z7N _ (W1 (by decide) _) hl _ t w (Nat.le_refl _) (by rw[List.take_length,Q5 (by decide)]) hw
def v2F:Nat→Nat→Nat
 |0,_=>0
 |f+1,n=>if n%2=1 then 0 else v2F f (n/2)+1
def v2(n:Nat):Nat:=v2F n n
def z2U(n:Nat):Nat:=n/2^v2 n
theorem z9w: ∀(f n:Nat),n≤f→n≠0→n=2^v2F f n*(n/2^v2F f n)∧n/2^v2F f n%2=1
 |0,n,h,h0=>by omega
 |f+1,n,h,h0=>by
  unfold v2F
  by_cases hn:n%2=1
  · rw[if_pos hn];simp[hn]
  · rw[if_neg hn]
    obtain⟨h1,h2⟩:=z9w f (n/2) (by omega) (by omega)
    have e:n/2^(v2F f (n/2)+1)=n/2/2^v2F f (n/2):=by rw[Nat.pow_succ,Nat.mul_comm,Nat.div_div_eq_div_mul]
    rw[e]
    refine⟨?_,h2⟩
    rw[Nat.pow_succ,Nat.mul_comm _ 2,Nat.mul_assoc,←h1];omega
theorem z2c{n:Nat}(h:n≠0):n=2^v2 n*z2U n∧z2U n%2=1:=z9w n n (Nat.le_refl _) h
theorem z6j (n m : Nat) (us vs : List Nat) (hn : n = us.length) (hm : m = vs.length) (hu : us = dig B24 (val B24 us)) (hv : vs = dig B24 (val B24 vs)) (hl : us.length < 2 ^ 40) (hl' : vs.length < 2 ^ 40) :
    PCall P 198 [.lst n (j3 us),.lst m (j3 vs)] (j7 (z1W (val B24 us) (val B24 vs))):=by
 subst hn hm
 have:=z4L (val B24 us) (val B24 vs) (by rw[←hu];omega) (by rw[←hv];omega)
 unfold z4d at this
 rw[←hu,←hv]at this
 exact this
theorem z5U: ∀l:List Nat,CV.flats (j3 l)=true
 | []=>rfl
 |x::l=>by
  have:=z5U l
  simp only[j3,List.map_cons,CV.flats,CV.flat,Bool.and_eq_true]at this ⊢
  exact⟨trivial,this⟩
theorem z9x (n m : Nat) (us vs : List Nat) (hn : n = us.length) (hm : m = vs.length) (hu : us = dig B24 (val B24 us)) (hv : vs = dig B24 (val B24 vs)) (hl : us.length < 2 ^ 40) (hle : val B24 vs ≤ val B24 us) :
    zf4 P 199 [.lst n (j3 us),.lst m (j3 vs)] (.sl 0 0 (dig B24 (val B24 us-val B24 vs)).length 1) (j3 (Z1 B24 n (val B24 us-val B24 vs))):=by
 subst hn hm
 have:=z5Q (val B24 us) (val B24 vs) (by rw[←hu];exact hl) hle
 unfold z4d at this
 rw[←hu,←hv]at this
 exact⟨this,z5U _⟩
theorem zgg (m D : Nat) (hD : D ≠ 0) (hm : (dig B24 D).length ≤ m) (hl : m < 2 ^ 40) : z1K P 231 [some (own (j3 (Z1 B24 m D)))] [.sl 0 0 (dig B24 D).length 1]
    (.tup [.sl 0 (v2 D/24) (dig B24 (z2U D)).length 1,.cv (j7 (v2 D:Int))]) [some (own (j3 (Y9 (Z1 B24 m D) (v2 D/24) ((dig B24 D).length-v2 D/24) (z2U D))))]:=by
 obtain⟨h1,h2⟩:=z2c hD
 refine z7N _ (z0e (by decide) _ _) (by rw[j8];exact hl) _ _ _ (by rw[j8];exact hm) ?_ h2
 rw[←h1]
 have hlt:=Q2 (by decide:2≤B24) D
 have hd:Dig B24 ((Z1 B24 m D).take (dig B24 D).length):=(z0e (by decide) _ _).take _
 have e:=z0G (b:=B24) (Z1 B24 m D) (dig B24 D).length (by rw[j8];exact hm)
 rw[z0n,Nat.mod_eq_of_lt (Nat.lt_of_lt_of_le hlt (Nat.pow_le_pow_right (by decide) hm))]at e
 have hv:=z0s (by decide:0<B24) _ hd
 rw[show((Z1 B24 m D).take (dig B24 D).length).length=(dig B24 D).length by simp[j8];omega]at hv
 generalize val B24 ((Z1 B24 m D).drop (dig B24 D).length)=z at e
 generalize val B24 ((Z1 B24 m D).take (dig B24 D).length)=y at e hv ⊢
 rcases Nat.eq_zero_or_pos z with h0|h0
 · subst h0;omega
 · have:=Nat.le_mul_of_pos_right (B24^(dig B24 D).length) h0;omega
theorem z10(xs:List Nat):List.take (xs.length*1) (List.drop 0 (own (j3 xs)))=List.map MV.cv (j3 xs):=by
 rw[Nat.mul_one,List.drop_zero]
 exact List.take_of_length_le (by rw[J4,Q9];exact Nat.le_refl _)
theorem zdb (n m : Nat) (us vs : List Nat) (hn : n = us.length) (hm : m = vs.length) (hu : us = dig B24 (val B24 us)) (hv : vs = dig B24 (val B24 vs)) (hl : us.length < 2 ^ 40) (hl' : vs.length < 2 ^ 40) :
    PCall P 197 [.lst n (j3 us),.lst m (j3 vs)] (z4d (val B24 us+val B24 vs)):=by
 subst hn hm
 have:=z5L (val B24 us) (val B24 vs) (by rw[←hu];omega) (by rw[←hv];omega)
 unfold z4d at this ⊢
 rw[←hu,←hv]at this
 exact this
theorem zmE(n m:Nat)(us vs:List Nat)(o0:(0:Int)≤i64.wrap ((n:Int)+m)∧i64.wrap ((n:Int)+m)≤i64.wrap ((n:Int)+m)∧(8:Int)*i64.wrap ((n:Int)+m)≤140737488355328∧i64.wrap ((n:Int)+m)≤4611686018427387904∧1=1)(o1:CvL (List.replicate ((i64.wrap ((n:Int)+m)).toNat*1) (.cv (.lit (.int .i64 0))))){R:CV→Prop}(hR:Ok P 200 (loopHead P 200 0) ⟨J3 63 [(0,.cv (.lst n (j3 us))),(1,.cv (.lst m (j3 vs))),(5,.sl 0 0 (i64.wrap ((n:Int)+m)).toNat 1),(6,.cv (.lit (.int .i64 0)))],[some (List.replicate ((i64.wrap ((n:Int)+m)).toNat*1) (.cv (.lit (.int .i64 0))))]⟩ (.of R)):W5 P 200 [.lst n (j3 us),.lst m (j3 vs)] R:=
 Y2 (keep:=[0,1,5,6]) (σ:=[0]) (.c o0 (.o 9 .stop .nil)) (by kernel_rfl) rfl hR (.cons o1 .nil)
theorem zhd(n m o i:Nat)(us vs zs:List Nat)(h1:decide ((i:Int)<n)=true){R:Goal}(hn:j9 R.n [0]=true)(hR:Ok P 200 (loopHead P 200 1) ⟨J3 63 [(0,.cv (.lst n (j3 us))),(1,.cv (.lst m (j3 vs))),(5,.sl 0 0 o 1),(6,.cv (.lit (.int .i64 (i:Int)))),(7,.cv (.lit (.int .i64 0))),(8,.cv (.lit (.int .i64 0)))],[some (own (j3 zs))]⟩ R):Ok P 200 (loopHead P 200 0) ⟨J3 63 [(0,.cv (.lst n (j3 us))),(1,.cv (.lst m (j3 vs))),(5,.sl 0 0 o 1),(6,.cv (j7 (i:Int)))],[some (own (j3 zs))]⟩ R:=
 z16 (keep:=[0,1,5,6,7,8]) (σ:=[0]) (.b 5 h1 (.o 8 .stop .nil)) (by kernel_rfl) rfl hn hR (.cons (J0 _) .nil)
theorem zgI(n m o i:Nat)(us vs zs:List Nat)(h1:decide ((i:Int)<n)=false)(a:o=zs.length)(d:Dig 16777216 zs)(e:zs.length<2^62)(o2:List.take (o*1) (List.drop 0 (own (j3 zs)))=List.map MV.cv (j3 zs)){R:Goal}(hR:R.c (.lst (dig 16777216 (val 16777216 zs)).length (j3 (dig 16777216 (val 16777216 zs))))):Ok P 200 (loopHead P 200 0) ⟨J3 63 [(0,.cv (.lst n (j3 us))),(1,.cv (.lst m (j3 vs))),(5,.sl 0 0 o 1),(6,.cv (j7 (i:Int)))],[some (own (j3 zs))]⟩ R:=
 okT (.b 5 h1 (.rs 7 [j3 zs] (z3v o zs a d e) (.c o2 .nil))) (by kernel_rfl) hR
theorem ziI(n m o i c k:Nat)(us vs zs:List Nat)(h1:decide ((k:Int)<m)=true)(o1:(0:Int)≤i64.wrap ((i:Int)+k)∧i64.wrap ((i:Int)+k)<(o:Int))(o2:(own (j3 zs))[0+(i64.wrap ((i:Int)+k)).toNat*1]?=some (.cv (.lit (.int .i64 (↑(zs.getD (0+(i64.wrap ((i:Int)+k)).toNat*1) 0):Int)))))(o4:(0:Int)≤i∧(i:Int)<n)(o5:(j3 us)[(i:Int).toNat*1]?=some (.lit (.int .i64 ↑(us.getD ((i:Int).toNat*1) 0))))(o7:(0:Int)≤k∧(k:Int)<m)(o8:(j3 vs)[(k:Int).toNat*1]?=some (.lit (.int .i64 ↑(vs.getD ((k:Int).toNat*1) 0))))(o11:(0:Int)≤i64.wrap ((i:Int)+k)∧i64.wrap ((i:Int)+k)<(o:Int))(o12:0+(i64.wrap ((i:Int)+k)).toNat*1+1≤(own (j3 zs)).length)(o14:CvL (j4 (own (j3 zs)) (0+(i64.wrap ((i:Int)+k)).toNat*1) [.cv (.lit (.int .i64 ((i64.wrap ((c:Int)+i64.wrap ((↑(zs.getD (0+(i64.wrap ((i:Int)+k)).toNat*1) 0):Int)+i64.wrap ((↑(us.getD ((i:Int).toNat*1) 0):Int)*(↑(vs.getD ((k:Int).toNat*1) 0):Int))))).tmod 16777216)))])){R:Goal}(hn:j9 R.n [0]=true)(hR:Ok P 200 (loopHead P 200 1) ⟨J3 63 [(0,.cv (.lst n (j3 us))),(1,.cv (.lst m (j3 vs))),(5,.sl 0 0 o 1),(6,.cv (.lit (.int .i64 (i:Int)))),(7,.cv (.lit (.int .i64 (i64.wrap ((i64.wrap ((c:Int)+i64.wrap ((↑(zs.getD (0+(i64.wrap ((i:Int)+k)).toNat*1) 0):Int)+i64.wrap ((↑(us.getD ((i:Int).toNat*1) 0):Int)*(↑(vs.getD ((k:Int).toNat*1) 0):Int))))).tdiv 16777216))))),(8,.cv (.lit (.int .i64 (i64.wrap ((k:Int)+1)))))],[some (j4 (own (j3 zs)) (0+(i64.wrap ((i:Int)+k)).toNat*1) [.cv (.lit (.int .i64 ((i64.wrap ((c:Int)+i64.wrap ((↑(zs.getD (0+(i64.wrap ((i:Int)+k)).toNat*1) 0):Int)+i64.wrap ((↑(us.getD ((i:Int).toNat*1) 0):Int)*(↑(vs.getD ((k:Int).toNat*1) 0):Int))))).tmod 16777216)))])]⟩ R):Ok P 200 (loopHead P 200 1) ⟨J3 63 [(0,.cv (.lst n (j3 us))),(1,.cv (.lst m (j3 vs))),(5,.sl 0 0 o 1),(6,.cv (j7 (i:Int))),(7,.cv (j7 (c:Int))),(8,.cv (j7 (k:Int)))],[some (own (j3 zs))]⟩ R:=
 z16 (keep:=[0,1,5,6,7,8]) (σ:=[0]) (.b 5 h1 (.c o1 (.e 12 o2 (.c (eqn 1) (.c o4 (.l 16 o5 (.c (eqn 1) (.c o7 (.l 20 o8 (.c (eqn 1) (.c (nz 16777216) (.c o11 (.c o12 (.c (nz 16777216) (.o 39 .stop .nil))))))))))))))) (by kernel_rfl) rfl hn hR (.cons o14 .nil)
theorem zj4(n m o i c k:Nat)(us vs zs:List Nat)(h1:decide ((k:Int)<m)=false)(o1:(0:Int)≤i64.wrap ((i:Int)+m)∧i64.wrap ((i:Int)+m)<(o:Int))(o2:0+(i64.wrap ((i:Int)+m)).toNat*1+1≤(own (j3 zs)).length)(o3:CvL (j4 (own (j3 zs)) (0+(i64.wrap ((i:Int)+m)).toNat*1) [.cv (.lit (.int .i64 (c:Int)))])){R:Goal}(hn:j9 R.n [0]=true)(hR:Ok P 200 (loopHead P 200 0) ⟨J3 63 [(0,.cv (.lst n (j3 us))),(1,.cv (.lst m (j3 vs))),(5,.sl 0 0 o 1),(6,.cv (.lit (.int .i64 (i64.wrap ((i:Int)+1)))))],[some (j4 (own (j3 zs)) (0+(i64.wrap ((i:Int)+m)).toNat*1) [.cv (.lit (.int .i64 (c:Int)))])]⟩ R):Ok P 200 (loopHead P 200 1) ⟨J3 63 [(0,.cv (.lst n (j3 us))),(1,.cv (.lst m (j3 vs))),(5,.sl 0 0 o 1),(6,.cv (j7 (i:Int))),(7,.cv (j7 (c:Int))),(8,.cv (j7 (k:Int)))],[some (own (j3 zs))]⟩ R:=
 z16 (keep:=[0,1,5,6]) (σ:=[0]) (.b 5 h1 (.c o1 (.c o2 (.o 17 .stop .nil)))) (by kernel_rfl) rfl hn hR (.cons o3 .nil)
theorem zfw {R : Goal} (hn : j9 R.n [0] = true) (us vs : List Nat) (hl : us.length + vs.length < 2 ^ 41) (hx : Dig B24 us) (hy : Dig B24 vs) (i : Nat) (hi : i < us.length)
    (hR: ∀zs:List Nat,zs.length=us.length+vs.length→Dig B24 zs→(∀p,i+1+vs.length≤p→zs.getD p 0=0)→val B24 zs=val B24 (us.take (i+1))*val B24 vs→
     Ok P 200 (loopHead P 200 0) ⟨J3 63 [(0,.cv (.lst us.length (j3 us))),(1,.cv (.lst vs.length (j3 vs))),(5,.sl 0 0 (us.length+vs.length) 1),(6,.cv (j7 ((i+1:Nat):Int)))],[some (own (j3 zs))]⟩ R):
    ∀(d k:Nat) (zs:List Nat) (c:Nat),vs.length-k=d→k≤vs.length→zs.length=us.length+vs.length→Dig B24 zs→c<B24→(∀p,i+vs.length≤p→zs.getD p 0=0)→
     val B24 zs+c*B24^(i+k)=val B24 (us.take i)*val B24 vs+us.getD i 0*val B24 (vs.take k)*B24^i→
     Ok P 200 (loopHead P 200 1) ⟨J3 63 [(0,.cv (.lst us.length (j3 us))),(1,.cv (.lst vs.length (j3 vs))),(5,.sl 0 0 (us.length+vs.length) 1),(6,.cv (j7 (i:Int))),(7,.cv (j7 (c:Int))),(8,.cv (j7 (k:Int)))],[some (own (j3 zs))]⟩ R:=by
 intro d
 induction d with
 |zero=>
  intro k zs c hd hk hz hdz hc h0 hv
  have:k=vs.length:=by omega
  subst this
  have e1:i64.wrap ((i:Int)+(vs.length:Int))=((i+vs.length:Nat):Int):=by rw[w64 (by omega)];omega
  have e2:(0:Nat)+((i+vs.length:Nat):Int).toNat*1=i+vs.length:=by omega
  have e3:i64.wrap ((i:Int)+1)=((i+1:Nat):Int):=by rw[w64 (by omega)];omega
  have hset:j4 (own (j3 zs)) (i+vs.length) [.cv (.lit (.int .i64 (c:Int)))]=own (j3 (zs.set (i+vs.length) c)):=Q7 (by omega)
  refine zj4 _ _ _ _ _ _ _ _ _ (by simp) (by rw[e1];omega) (by rw[e1,e2,J4,Q9];omega) (by rw[e1,e2,hset];exact J0 _) hn ?_
  rw[e1,e2,hset,e3]
  refine hR _ (by simpa using hz) (hdz.set hc _) (fun p hp=>?_) ?_
  · rw[z7A _ _ _ _ (by omega),if_neg (by omega)];exact h0 p (by omega)
  · rw[List.take_length]at hv
    exact zcP (by omega) (h0 _ (Nat.le_refl _)) hv
 |succ d ih=>
  intro k zs c hd hk hz hdz hc h0 hv
  have e1:i64.wrap ((i:Int)+(k:Int))=((i+k:Nat):Int):=by rw[w64 (by omega)];omega
  have e2:(0:Nat)+((i+k:Nat):Int).toNat*1=i+k:=by omega
  have e3:i64.wrap ((k:Int)+1)=((k+1:Nat):Int):=by rw[w64 (by omega)];omega
  have e4:(i:Int).toNat*1=i:=by omega
  have e5:(k:Int).toNat*1=k:=by omega
  have gx:=W7 (xs:=us) (i:=(i:Int).toNat*1) (by omega)
  have gy:=W7 (xs:=vs) (i:=(k:Int).toNat*1) (by omega)
  have gz:=X1 (W7 (xs:=zs) (i:=i+k) (by omega))
  have dx:=hx.get (by decide) i
  have dy:=hy.get (by decide) k
  have dz:=hdz.get (by decide) (i+k)
  have hp:us.getD i 0*vs.getD k 0<281474976710656:=by
   have:us.getD i 0*vs.getD k 0≤16777215*16777215:=Nat.mul_le_mul (by simp only[B24]at dx;omega) (by simp only[B24]at dy;omega)
   omega
  have hsum:i64.wrap ((c:Int)+i64.wrap (((zs.getD (i+k) 0:Nat):Int)+i64.wrap (((us.getD i 0:Nat):Int)*((vs.getD k 0:Nat):Int))))=((c+zs.getD (i+k) 0+us.getD i 0*vs.getD k 0:Nat):Int):=by
   rw[show((us.getD i 0:Nat):Int)*((vs.getD k 0:Nat):Int)=((us.getD i 0*vs.getD k 0:Nat):Int) by push_cast;rfl]
   generalize us.getD i 0*vs.getD k 0=s at*
   simp only[B24]at dz hc
   rw[w64 (n:=(s:Int)) (by omega),w64 (n:=_+(s:Int)) (by omega),w64 (by omega)];omega
  obtain⟨_,s2,s3⟩:=z6B (s:=c+zs.getD (i+k) 0+us.getD i 0*vs.getD k 0) (by simp only[B24]at dz hc;omega)
  have hset:j4 (own (j3 zs)) (i+k) [.cv (.lit (.int .i64 (((c+zs.getD (i+k) 0+us.getD i 0*vs.getD k 0)%B24:Nat):Int)))]=own (j3 (zs.set (i+k) ((c+zs.getD (i+k) 0+us.getD i 0*vs.getD k 0)%B24))):=Q7 (by omega)
  refine ziI _ _ _ _ _ _ _ _ _ (decide_eq_true (by omega)) (by rw[e1];omega) (by rw[e1,e2];exact gz) (by omega) gx (by omega) gy (by rw[e1];omega) (by rw[e1,e2,J4,Q9];omega)
   (by rw[e1,e2,e4,e5,hsum,s2,hset];exact J0 _) hn ?_
  rw[e1,e2,e3,e4,e5,hsum,s2,s3,hset]
  refine ih (k+1) _ _ (by omega) (by omega) (by simpa using hz) (hdz.set (Nat.mod_lt _ (by decide)) _) (zdQ hc dz dx dy) (fun p hp=>?_) ?_
  · rw[z7A _ _ _ _ (by omega),if_neg (by omega)];exact h0 p hp
  · exact z9Z (by omega) hv
theorem zbw {R : Goal} (hn : j9 R.n [0] = true) (us vs : List Nat) (hl : us.length + vs.length < 2 ^ 41) (hx : Dig B24 us) (hy : Dig B24 vs)
    (hE: ∀zs:List Nat,zs.length=us.length+vs.length→Dig B24 zs→val B24 zs=val B24 us*val B24 vs→
     Ok P 200 (loopHead P 200 0) ⟨J3 63 [(0,.cv (.lst us.length (j3 us))),(1,.cv (.lst vs.length (j3 vs))),(5,.sl 0 0 (us.length+vs.length) 1),(6,.cv (j7 (us.length:Int)))],[some (own (j3 zs))]⟩ R):
    ∀(d i:Nat) (zs:List Nat),us.length-i=d→i≤us.length→zs.length=us.length+vs.length→Dig B24 zs→(∀p,i+vs.length≤p→zs.getD p 0=0)→val B24 zs=val B24 (us.take i)*val B24 vs→
     Ok P 200 (loopHead P 200 0) ⟨J3 63 [(0,.cv (.lst us.length (j3 us))),(1,.cv (.lst vs.length (j3 vs))),(5,.sl 0 0 (us.length+vs.length) 1),(6,.cv (j7 (i:Int)))],[some (own (j3 zs))]⟩ R:=by
 intro d
 induction d with
 |zero=>
  intro i zs hd hi hz hdz h0 hv
  have:i=us.length:=by omega
  subst this
  rw[List.take_length]at hv
  exact hE zs hz hdz hv
 |succ d ih=>
  intro i zs hd hi hz hdz h0 hv
  refine zhd _ _ _ _ _ _ _ (decide_eq_true (by omega)) hn ?_
  refine zfw hn us vs hl hx hy i (by omega) (fun zs' h1 h2 h3 h4=>ih (i+1) zs' (by omega) (by omega) h1 h2 (fun p hp=>h3 p (by omega)) h4) _ 0 zs 0 rfl (Nat.zero_le _) hz hdz (by decide) h0 ?_
  rw[hv];simp[val]
theorem zfu (n m : Nat) (us vs : List Nat) (hn : n = us.length) (hm : m = vs.length) (hu : Dig B24 us) (hv : Dig B24 vs) (hl : us.length < 2 ^ 40) (hl' : vs.length < 2 ^ 40) :
    PCall P 200 [.lst n (j3 us),.lst m (j3 vs)] (z4d (val B24 us*val B24 vs)):=by
 subst hn hm
 have e1:i64.wrap ((us.length:Int)+(vs.length:Int))=((us.length+vs.length:Nat):Int):=by rw[w64 (by omega)];omega
 have e2:((us.length+vs.length:Nat):Int).toNat=us.length+vs.length:=by omega
 refine V0 (zmE _ _ _ _ (by rw[e1];omega) (by rw[z0g];exact J0 _) ?_)
 rw[z0g,e1,e2,Nat.mul_one]
 exact zbw (R:= .of fun v=>v=z4d (val B24 us*val B24 vs)) rfl us vs (by omega) hu hv (fun zs hz hdz hv=>by
  refine zgI _ _ _ _ _ _ _ (by simp) hz.symm hdz (by omega) (by rw[←hz];exact z10 _) ?_
  rw[show(16777216:Nat)=B24 from rfl,hv];rfl) _ 0 (List.replicate (us.length+vs.length) 0) rfl (Nat.zero_le _) (by simp) (Dig.replicate (by decide) _) (fun p _=>by simp[List.getD_eq_getElem?_getD,List.getElem?_replicate];split<;>rfl) (by simp[val,z32])
abbrev dS0(n o m:Nat)(j F:Int)(ws xs qs:List Nat):St:=⟨J3 238 [(8,.sl 0 0 1 1),(9,.sl 1 0 n 1),(10,.cv (j7 (n:Int))),(11,.sl 2 0 o 1),(12,.sl 3 0 m 1),(13,.cv (j7 j))],[some [.cv (j7 F)],some (own (j3 ws)),some (own (j3 xs)),some (own (j3 qs))]⟩
end Go.Fw
