/- A part of the proof that the law returns true for every input: an executor for the model's code, and what functions of the program compute. -/
import Derived.Test.YtcafjpldfnegiaaGreatDoorB11
import Derived.Test.YtcafjpldfnegiaaGreatDoorB15
import Derived.Test.YtcafjpldfnegiaaGreatDoorB16
import Derived.Test.YtcafjpldfnegiaaGreatDoorB20
import Derived.Test.YtcafjpldfnegiaaGreatDoorB29
import Derived.KernelRfl
open Go
namespace Go.Fw
set_option maxRecDepth 100000
theorem zdG(xs:List Nat)(i m d:Nat)(h:i<xs.length):(xs.set i d).getD m 0=if m=i then d else xs.getD m 0:=by
 by_cases e:m=i
 · subst e;rw[if_pos rfl,z3C h]
 · rw[if_neg e,z19 (fun h=>e h.symm)]
theorem z7r{xs ys:List Nat}(hl:xs.length=ys.length)(h: ∀m,m<xs.length→xs.getD m 0=ys.getD m 0):xs=ys:=by
 refine List.ext_getElem hl fun m h1 h2=>?_
 have:=h m h1
 simpa[List.getD_eq_getElem?_getD,List.getElem?_eq_getElem h1,List.getElem?_eq_getElem h2]using this
def X1(xs:List Nat)(j n w:Nat):List Nat:=xs.take j++Q7 B24 n w++xs.drop (j+n)
theorem z3K{xs:List Nat}{j n w:Nat}(h:j+n≤xs.length):(X1 xs j n w).length=xs.length:=by
 simp[X1,j8];omega
theorem z5d{xs:List Nat}{j n w:Nat}(h:j+n≤xs.length):((X1 xs j n w).drop j).take n=Q7 B24 n w:=by
 have h1:(xs.take j).length=j:=by simp;omega
 rw[X1,List.append_assoc,List.drop_append_of_le_length (by omega),List.drop_eq_nil_of_le (by omega),List.nil_append,List.take_append_of_le_length (by rw[j8];omega),List.take_of_length_le (by rw[j8];omega)]
theorem z6t{a b:List Nat}{m:Nat}(h:m<a.length):(a++b).getD m 0=a.getD m 0:=by
 simp[List.getD_eq_getElem?_getD,List.getElem?_append_left h]
theorem z6e{a b:List Nat}{m:Nat}(h:a.length≤m):(a++b).getD m 0=b.getD (m-a.length) 0:=by
 simp[List.getD_eq_getElem?_getD,List.getElem?_append_right h]
theorem zbl{xs:List Nat}{j n w m:Nat}(h:j+n≤xs.length)(_hm:m<xs.length):(X1 xs j n w).getD m 0=if j≤m∧m<j+n then w/B24^(m-j)%B24 else xs.getD m 0:=by
 have h1:(xs.take j).length=j:=by simp;omega
 have h2:(xs.take j++Q7 B24 n w).length=j+n:=by simp[j8];omega
 unfold X1
 by_cases c1:m<j
 · rw[if_neg (by omega),List.append_assoc,z6t (by omega)]
   simp[List.getD_eq_getElem?_getD,c1]
 · by_cases c2:m<j+n
   · rw[if_pos (by omega),z6t (by omega),z6e (by omega),h1,Y9 _ _ _ _ (by omega)]
   · rw[if_neg (by omega),z6e (by omega),h2,z7H]
     congr 1;omega
section
variable{R:Goal}(hn:J0 R.n [0]=true)(hL:R.Lent 1)
include hn
theorem z63 (xs : List Nat) (j n c k u w : Nat) (hk : k < 24) (hu : u = 2 ^ k * w) (hw : u < B24 ^ n) (hx : ∀ m, m < n → xs.getD (j + m) 0 = u / B24 ^ m % B24) (hj : j + n ≤ xs.length) (hl : xs.length < 2 ^ 40) (hc : c < 2 ^ 50)
    (hR: ∀zs:List Nat,zs=X1 xs j n w→Ok P 231 (loopHead P 231 2) ⟨J3 62 [(0,.sl 0 j n 1),(4,.cv (j6 (c:Int))),(5,.cv (j6 (k:Int))),(6,.cv (j6 (n:Int)))],[some (own (j3 zs))]⟩ R):
    ∀(d i:Nat) (zs:List Nat),i+d=n→zs.length=xs.length→(∀m,m<xs.length→zs.getD m 0=if j≤m∧m<j+i then w/B24^(m-j)%B24 else xs.getD m 0)→
     Ok P 231 (loopHead P 231 2) ⟨J3 62 [(0,.sl 0 j n 1),(4,.cv (j6 (c:Int))),(5,.cv (j6 (k:Int))),(6,.cv (j6 (i:Int)))],[some (own (j3 zs))]⟩ R
 |0,i,zs,hi,hz,hg=>by
  have:i=n:=by omega
  subst this
  exact hR zs (z7r (by rw[hz,z3K hj]) fun m hm=>by rw[hg m (by omega),zbl hj (by omega)])
 |d+1,i,zs,hi,hz,hg=>by
  have e1:j+(i:Int).toNat*1=j+i:=by omega
  have ew:IntKind.i64.wrap ((i:Int)+1)=((i+1:Nat):Int):=by rw[w64 (by omega)];omega
  have z0:zs.getD (j+i) 0=u/B24^i%B24:=by rw[hg _ (by omega),if_neg (by omega),hx i (by omega)]
  have hg0:=Y7 (Z8 (xs:=zs) (i:=j+i) (by omega))
  have hfd:((zs.getD (j+i) 0:Nat):Int).fdiv (2^min (k:Int).toNat 64)=((zs.getD (j+i) 0/2^k:Nat):Int):=by
   rw[Int.toNat_natCast,Nat.min_eq_left (by omega)]
   have h2:(0:Int)<2^k:=Int.pow_pos (by decide)
   rw[Int.fdiv_eq_ediv_of_nonneg _ (by omega)]
   norm_cast
  have hset: ∀v:Nat,j4 (own (j3 zs)) (j+(i:Int).toNat*1) [.cv (.lit (.int .i64 (v:Int)))]=own (j3 (zs.set (j+i) v)):=by
   intro v;rw[e1];exact Q8 (by omega)
  have wi:w/B24^i=u/B24^i/2^k:=by
   rw[Nat.div_div_eq_div_mul,Nat.mul_comm,←Nat.div_div_eq_div_mul,hu,Nat.mul_div_cancel_left _ (Nat.pow_pos (by decide))]
  have upd: ∀v:Nat,v=w/B24^i%B24→ ∀m,m<xs.length→(zs.set (j+i) v).getD m 0=if j≤m∧m<j+(i+1)then w/B24^(m-j)%B24 else xs.getD m 0:=by
   intro v hv m hm
   rw[zdG _ _ _ _ (by omega)]
   by_cases c1:m=j+i
   · rw[if_pos c1,if_pos (by omega),hv,c1,show j+i-j=i by omega]
   · rw[if_neg c1,hg m hm]
     by_cases c2:j≤m∧m<j+i
     · rw[if_pos c2,if_pos (by omega)]
     · rw[if_neg c2,if_neg (by omega)]
  have hdl:zs.getD (j+i) 0<B24:=by rw[z0];exact Nat.mod_lt _ (by decide)
  have hdk:zs.getD (j+i) 0/2^k≤zs.getD (j+i) 0:=Nat.div_le_self _ _
  by_cases hlast:i+1<n
  · have z1 : zs.getD (j + i + 1) 0 = u / B24 ^ i / B24 % B24 := by
      rw[hg _ (by omega),if_neg (by omega),Nat.add_assoc,hx (i+1) (by omega),Nat.pow_succ,←Nat.div_div_eq_div_mul]
    have hg1:(own (j3 (zs.set (j+i) (zs.getD (j+i) 0/2^k))))[j+i]?=some (.cv (j6 ((zs.getD (j+i) 0/2^k:Nat):Int))):=by
     have:=Y7 (Z8 (xs:=zs.set (j+i) (zs.getD (j+i) 0/2^k)) (i:=j+i) (by simp;omega))
     rwa[z2A,z3C (by omega)]at this
    have hg2:(own (j3 (zs.set (j+i) (zs.getD (j+i) 0/2^k))))[j+i+1]?=some (.cv (j6 ((zs.getD (j+i+1) 0:Nat):Int))):=by
     have:=Y7 (Z8 (xs:=zs.set (j+i) (zs.getD (j+i) 0/2^k)) (i:=j+i+1) (by simp;omega))
     rwa[z2A,z19 (by omega)]at this
    have hql:zs.getD (j+i+1) 0<B24:=by rw[z1];exact Nat.mod_lt _ (by decide)
    have hpw:2^(24-k)≤16777216:=by
     have:2^(24-k)≤2^24:=Nat.pow_le_pow_right (by decide) (by omega)
     simpa using this
    have hprod:zs.getD (j+i+1) 0*2^(24-k)≤B24*16777216:=Nat.mul_le_mul (Nat.le_of_lt hql) hpw
    have ek:IntKind.i64.wrap (24-(k:Int))=((24-k:Nat):Int):=by rw[w64 (by omega)];omega
    have hv:IntKind.i64.wrap (((zs.getD (j+i) 0/2^k:Nat):Int)+(IntKind.i64.wrap (((zs.getD (j+i+1) 0:Nat):Int)*2^min (IntKind.i64.wrap (24-(k:Int))).toNat 64)).tmod 16777216)=((w/B24^i%B24:Nat):Int):=by
     rw[ek,Int.toNat_natCast,Nat.min_eq_left (by omega)]
     have e3:((zs.getD (j+i+1) 0:Nat):Int)*2^(24-k)=((zs.getD (j+i+1) 0*2^(24-k):Nat):Int):=by norm_cast
     rw[e3,w64 (n:=((zs.getD (j+i+1) 0*2^(24-k):Nat):Int)) (by simp only[B24]at hprod;omega),Int.tmod_eq_emod_of_nonneg (by omega)]
     have e4:w/B24^i%B24=zs.getD (j+i) 0/2^k+zs.getD (j+i+1) 0*2^(24-k)%B24:=by rw[wi,z92 _ k (by omega),z0,z1]
     have hl2:w/B24^i%B24<B24:=Nat.mod_lt _ (by decide)
     rw[e4]at hl2 ⊢
     clear e4 e3
     generalize zs.getD (j+i+1) 0*2^(24-k)=X at hl2 ⊢
     generalize zs.getD (j+i) 0/2^k=Y at hl2 ⊢
     simp only[B24]at hl2 ⊢
     rw[w64 (by omega)];omega
    refine ziR j n c k i zs ((zs.getD (j+i) 0/2^k:Nat):Int) ((zs.getD (j+i+1) 0:Nat):Int) (decide_eq_true (by omega)) (by rw[ew];exact decide_eq_true (by omega)) (by omega) (by rw[e1];exact hg0) (by omega) (by omega) (by rw[e1,J1,Q5];omega) (by omega)
     (by rw[e1,hfd,Q8 (by omega)];exact hg1) (by rw[ew];omega) (by rw[e1,ew,hfd,Q8 (by omega),show j+((i+1:Nat):Int).toNat*1=j+i+1 by omega];exact hg2) (by rw[ek];omega) (by omega)
     (by rw[e1,hfd,Q8 (by omega),J1,Q5,List.length_set];omega) ?_ hn ?_
    · rw[e1,hfd,Q8 (by omega),hv,Q8 (by simp;omega)];exact j9 _
    · rw[e1,hfd,Q8 (by omega),hv,Q8 (by simp;omega),List.set_set,ew]
      exact z63 xs j n c k u w hk hu hw hx hj hl hc hR d (i+1) _ (by omega) (by simpa using hz) (upd _ rfl)
  · have hAlt : u / B24 ^ i < B24 := by
      rw[Nat.div_lt_iff_lt_mul (Nat.pow_pos (by decide))]
      have:B24*B24^i=B24^n:=by rw[show n=i+1 by omega,Nat.pow_succ,Nat.mul_comm]
      omega
    have hv:zs.getD (j+i) 0/2^k=w/B24^i%B24:=by
     rw[wi,z0,Nat.mod_eq_of_lt hAlt,Nat.mod_eq_of_lt (Nat.lt_of_le_of_lt (Nat.div_le_self _ _) hAlt)]
    refine zjF j n c k i zs (decide_eq_true (by omega)) (by rw[ew];exact decide_eq_false (by omega)) (by omega) (by rw[e1];exact hg0) (by omega) (by omega) (by rw[e1,J1,Q5];omega) ?_ hn ?_
    · rw[e1,hfd,Q8 (by omega)];exact j9 _
    · rw[e1,hfd,Q8 (by omega),ew]
      exact z63 xs j n c k u w hk hu hw hx hj hl hc hR d (i+1) _ (by omega) (by simpa using hz) (upd _ hv)
end
end Go.Fw
open Go
namespace Go.Fw
set_option maxRecDepth 100000
theorem z77{xs:List Nat}{j n m:Nat}(_h:j+n≤xs.length)(hm:m<n):((xs.drop j).take n).getD m 0=xs.getD (j+m) 0:=by
 simp[List.getD_eq_getElem?_getD,List.getElem?_drop,hm]
theorem z2O{xs:List Nat}{j n m:Nat}(hd:Dig B24 xs)(h:j+n≤xs.length)(hm:m<n):xs.getD (j+m) 0=val B24 ((xs.drop j).take n)/B24^m%B24:=by
 rw[←z77 h hm]
 have hdd:Dig B24 ((xs.drop j).take n):=(hd.drop j).take n
 have hl:((xs.drop j).take n).length=n:=by simp;omega
 have:=z4p (by decide:0<B24) _ hdd
 rw[hl]at this
 conv=>lhs;rw[this]
 rw[Y9 _ _ _ _ hm]
section
variable{R:Goal}(hn:J0 R.n [0]=true)(hL:R.Lent 1)
include hn hL
omit hn in
theorem zhe (xs : List Nat) (j n c k w : Nat) (hj : j + n ≤ xs.length) (hl : xs.length < 2 ^ 40) (hc : c + k < 2 ^ 60) (hw : w < B24 ^ n)
    (hR:R.m (.tup [.sl 0 j (dig B24 w).length 1,(.cv (j6 ((c:Int)+k)))]) [some (own (j3 (X1 xs j n w)))]):
    Ok P 231 (loopHead P 231 2) ⟨J3 62 [(0,.sl 0 j n 1),(4,.cv (j6 (c:Int))),(5,.cv (j6 (k:Int))),(6,.cv (j6 (n:Int)))],[some (own (j3 (X1 xs j n w)))]⟩ R:=by
 have hl2:=z3K (w:=w) hj
 refine zhQ j n c k n (X1 xs j n w) (decide_eq_false (by omega)) (by omega) (by omega) (BlksCv.two (j9 _) (j9 _)) (BlksCv.one (j9 _)) hL ?_
 rw[z5d hj,z0S (by decide:2≤B24) _ (U1 (by decide) _ _),z06,Nat.mod_eq_of_lt hw,w64 (by omega)]
 exact hR
theorem zfD (xs : List Nat) (hd : Dig B24 xs) (j n c k u w : Nat) (hk : k < 24) (hu : u = 2 ^ k * w) (hw2 : w % 2 = 1) (hn0 : 0 < n) (huv : val B24 ((xs.drop j).take n) = u) (hj : j + n ≤ xs.length) (hl : xs.length < 2 ^ 40) (hc : c < 2 ^ 50)
    (hR:R.m (.tup [.sl 0 j (dig B24 w).length 1,.cv (j6 ((c:Int)+k))]) [some (own (j3 (X1 xs j n w)))]):
    ∀(d i:Nat),i+d=k→Ok P 231 (loopHead P 231 1) ⟨J3 62 [(0,.sl 0 j n 1),(4,.cv (j6 (c:Int))),(5,.cv (j6 (i:Int)))],[some (own (j3 xs))]⟩ R:=by
 have hx0:xs.getD (j+0) 0=u%B24:=by
  have:=z2O hd hj hn0
  rw[huv,Nat.pow_zero,Nat.div_one]at this
  exact this
 have hg:=Y7 (Z8 (xs:=xs) (i:=j+0) (by omega))
 have hbit: ∀i,i≤k→X2 .and .i64 (((xs.getD (j+0) 0:Nat):Int).fdiv (2^min (i:Int).toNat 64)) 1=((u/2^i%2:Nat):Int):=by
  intro i hi
  have hfd:((xs.getD (j+0) 0:Nat):Int).fdiv (2^min (i:Int).toNat 64)=((xs.getD (j+0) 0/2^i:Nat):Int):=by
   rw[Int.toNat_natCast,Nat.min_eq_left (by omega)]
   have h2:(0:Int)<2^i:=Int.pow_pos (by decide)
   rw[Int.fdiv_eq_ediv_of_nonneg _ (by omega)]
   norm_cast
  have hlt:xs.getD (j+0) 0<B24:=hd.get (by decide) _
  have hle:=Nat.div_le_self (xs.getD (j+0) 0) (2^i)
  rw[hfd,zq5 _ (by simp only[B24]at hlt;omega),hx0,zbS u i (by omega)]
 intro d
 induction d with
 |zero=>
  intro i hi
  have:i=k:=by omega
  subst this
  have hodd:u/2^i%2=1:=by rw[hu,Nat.mul_div_cancel_left _ (Nat.pow_pos (by decide)),hw2]
  refine zjN j n c i xs (by rw[hbit i (Nat.le_refl _),hodd];rfl) (by omega) hg (by omega) hn ?_
  have hub:u<B24^n:=by
   rw[←huv]
   have:=z0z (by decide:0<B24) _ ((hd.drop j).take n)
   rwa[show((xs.drop j).take n).length=n by simp;omega]at this
  have hwb:w<B24^n:=by
   refine Nat.lt_of_le_of_lt ?_ hub
   rw[hu];exact Nat.le_mul_of_pos_left _ (Nat.pow_pos (by decide))
  refine z63 hn xs j n c i u w hk hu hub (fun m hm=>by rw[←huv];exact z2O hd hj hm) hj hl hc ?_ n 0 xs (by omega) rfl (fun m _=>by rw[if_neg (by omega)])
  intro zs hz
  subst hz
  exact zhe hL xs j n c i w hj hl (by omega) hwb hR
 |succ d ih=>
  intro i hi
  have heven:u/2^i%2=0:=by
   have:u=2^i*(2*(2^(k-i-1)*w)):=by
    rw[hu,←Nat.mul_assoc,←Nat.mul_assoc,←Nat.pow_succ,←Nat.pow_add,show i+1+(k-i-1)=k by omega]
   rw[this,Nat.mul_div_cancel_left _ (Nat.pow_pos (by decide)),Nat.mul_mod_right]
  refine zhN j n c i xs (by rw[hbit i (by omega),heven];rfl) (by omega) hg (by omega) hn ?_
  rw[w64 (by omega)]
  exact ih (i+1) (by omega)
theorem zaO (n0 t w : Nat) (hw2 : w % 2 = 1) (xs : List Nat) (hd : Dig B24 xs) (hl : xs.length < 2 ^ 40) (j0 : Nat)
    (hR: ∀j n c,j+n=j0+n0→c+0=24*(j-j0)→j0≤j→j-j0=t/24→R.m (.tup [.sl 0 j (dig B24 w).length 1,.cv (j6 ((c:Int)+((t%24:Nat):Int)))]) [some (own (j3 (X1 xs j n w)))]):
    ∀(s j n c:Nat),t=24*(j-j0)+s→j+n=j0+n0→c=24*(j-j0)→j0≤j→j+n≤xs.length→val B24 ((xs.drop j).take n)=2^s*w→
     Ok P 231 (loopHead P 231 0) ⟨J3 62 [(0,.sl 0 j n 1),(4,.cv (j6 (c:Int)))],[some (own (j3 xs))]⟩ R:=by
 intro s
 induction s using Nat.strongRecOn with
 |_ s ih=>
  intro j n c ht hjn hc hj0 hj hv
  have hpos:0<2^s*w:=Nat.mul_pos (Nat.pow_pos (by decide)) (by omega)
  have hn0:0<n:=by
   rcases Nat.eq_zero_or_pos n with h|h
   · subst h;rw[List.take_zero]at hv;simp only[val]at hv;omega
   · exact h
  have hx0:xs.getD (j+0) 0=2^s*w%B24:=by
   have:=z2O hd hj hn0
   rw[hv,Nat.pow_zero,Nat.div_one]at this
   exact this
  have hg:=Y7 (Z8 (xs:=xs) (i:=j+0) (by omega))
  by_cases h24:24≤s
  · have e : 2 ^ s * w = B24 * (2 ^ (s - 24) * w) := by
      rw[←Nat.mul_assoc,show(B24:Nat)=2^24 by decide,←Nat.pow_add,show 24+(s-24)=s by omega]
    have hz:xs.getD (j+0) 0=0:=by rw[hx0,e,Nat.mul_mod_right]
    have hsp:(xs.drop j).take n=xs.getD (j+0) 0::(xs.drop (j+1)).take (n-1):=by
     have hlt:j<xs.length:=by omega
     rw[List.drop_eq_getElem_cons hlt,show n=n-1+1 by omega,List.take_succ_cons,Nat.add_zero]
     simp[List.getD_eq_getElem?_getD,List.getElem?_eq_getElem hlt]
    have hv2:val B24 ((xs.drop (j+1)).take (n-1))=2^(s-24)*w:=by
     rw[hsp,hz]at hv
     simp only[val]at hv
     rw[e,Nat.zero_add]at hv
     exact Nat.eq_of_mul_eq_mul_left (by decide) hv
    have hp2:0<2^(s-24)*w:=Nat.mul_pos (Nat.pow_pos (by decide)) (by omega)
    have hn1:0<n-1:=by
     rcases Nat.eq_zero_or_pos (n-1)with h|h
     · rw[h,List.take_zero]at hv2;simp only[val]at hv2;omega
     · exact h
    refine ziN j n c xs (beq_iff_eq.2 (by omega)) (by omega) hg (by omega) hn ?_
    rw[w64 (by omega),show((n:Int)-1).toNat=n-1 by omega,show(c:Int)+24=((c+24:Nat):Int) by omega]
    exact ih (s-24) (by omega) (j+1) (n-1) (c+24) (by omega) (by omega) (by omega) (by omega) (by omega) hv2
  · have hnz : xs.getD (j + 0) 0 ≠ 0 := by
      rw[hx0]
      intro h
      have hb:=zbS (2^s*w) s (by omega)
      rw[h,Nat.zero_div,Nat.mul_div_cancel_left _ (Nat.pow_pos (by decide)),hw2]at hb
      simp at hb
    refine zkN j n c xs (beq_eq_false_iff_ne.2 (by omega)) (by omega) hg hn ?_
    have hts:t%24=s∧j-j0=t/24:=by omega
    refine zfD hn hL xs hd j n c s (2^s*w) w (by omega) rfl hw2 hn0 hv hj hl (by omega) ?_ s 0 (by omega)
    have:=hR j n c hjn (by omega) hj0 hts.2
    rwa[hts.1]at this
end
theorem z8y (xs : List Nat) (hd : Dig B24 xs) (hl : xs.length < 2 ^ 40) (n t w : Nat) (hn : n ≤ xs.length) (hv : val B24 (xs.take n) = 2 ^ t * w) (hw : w % 2 = 1) :
    z1Z P 231 [some (own (j3 xs))] [.sl 0 0 n 1] (.tup [.sl 0 (t/24) (dig B24 w).length 1,.cv (j6 (t:Int))]) [some (own (j3 (X1 xs (t/24) (n-t/24) w)))]:=by
 refine zox n xs ?_
 refine zaO (R:= .lent 1 _) rfl ⟨rfl,rfl⟩ n t w hw xs hd hl 0 ?_ t 0 n 0 (by omega) (by omega) (by omega) (by omega) (by omega) (by rw[List.drop_zero];exact hv)
 intro j m c h1 h2 _ h4
 have hj:j=t/24:=by omega
 subst hj
 have e1:(c:Int)+((t%24:Nat):Int)=(t:Int):=by omega
 have e2:m=n-t/24:=by omega
 rw[e1,e2]
 exact⟨rfl,rfl⟩
end Go.Fw
open Go
namespace Go.Fw
theorem z4T (t w : Nat) (hw : w % 2 = 1) (hl : (dig B24 (2 ^ t * w)).length < 2 ^ 40) : z1Z P 231 [some (own (j3 (dig B24 (2 ^ t * w))))] [.sl 0 0 (dig B24 (2 ^ t * w)).length 1]
    (.tup [.sl 0 (t/24) (dig B24 w).length 1,.cv (j6 (t:Int))]) [some (own (j3 (X1 (dig B24 (2^t*w)) (t/24) ((dig B24 (2^t*w)).length-t/24) w)))]:=
 z8y _ (Y5 (by decide) _) hl _ t w (Nat.le_refl _) (by rw[List.take_length,Q6 (by decide)]) hw
end Go.Fw
open Go
namespace Go.Fw
set_option maxRecDepth 100000
def v2F:Nat→Nat→Nat
 |0,_=>0
 |f+1,n=>if n%2=1 then 0 else v2F f (n/2)+1
def v2(n:Nat):Nat:=v2F n n
def z3n(n:Nat):Nat:=n/2^v2 n
theorem zaq: ∀(f n:Nat),n≤f→n≠0→n=2^v2F f n*(n/2^v2F f n)∧n/2^v2F f n%2=1
 |0,n,h,h0=>by omega
 |f+1,n,h,h0=>by
  unfold v2F
  by_cases hn:n%2=1
  · rw[if_pos hn];simp[hn]
  · rw[if_neg hn]
    obtain⟨h1,h2⟩:=zaq f (n/2) (by omega) (by omega)
    have e:n/2^(v2F f (n/2)+1)=n/2/2^v2F f (n/2):=by rw[Nat.pow_succ,Nat.mul_comm,Nat.div_div_eq_div_mul]
    rw[e]
    refine⟨?_,h2⟩
    rw[Nat.pow_succ,Nat.mul_comm _ 2,Nat.mul_assoc,←h1];omega
theorem z2B{n:Nat}(h:n≠0):n=2^v2 n*z3n n∧z3n n%2=1:=zaq n n (Nat.le_refl _) h
theorem rorder_v (n m : Nat) (us vs : List Nat) (hn : n = us.length) (hm : m = vs.length) (hu : us = dig B24 (val B24 us)) (hv : vs = dig B24 (val B24 vs)) (hl : us.length < 2 ^ 40) (hl' : vs.length < 2 ^ 40) :
    PCall P 198 [.lst n (j3 us),.lst m (j3 vs)] (j6 (z1j (val B24 us) (val B24 vs))):=by
 subst hn hm
 have:=z5Q (val B24 us) (val B24 vs) (by rw[←hu];omega) (by rw[←hv];omega)
 unfold z1X at this
 rw[←hu,←hv]at this
 exact this
theorem z41: ∀l:List Nat,CV.flats (j3 l)=true
 | []=>rfl
 |x::l=>by
  have:=z41 l
  simp only[j3,List.map_cons,CV.flats,CV.flat,Bool.and_eq_true]at this ⊢
  exact⟨trivial,this⟩
theorem z9P (n m : Nat) (us vs : List Nat) (hn : n = us.length) (hm : m = vs.length) (hu : us = dig B24 (val B24 us)) (hv : vs = dig B24 (val B24 vs)) (hl : us.length < 2 ^ 40) (hle : val B24 vs ≤ val B24 us) :
    zbb P 199 [.lst n (j3 us),.lst m (j3 vs)] (.sl 0 0 (dig B24 (val B24 us-val B24 vs)).length 1) (j3 (Q7 B24 n (val B24 us-val B24 vs))):=by
 subst hn hm
 have:=z6u (val B24 us) (val B24 vs) (by rw[←hu];exact hl) hle
 unfold z1X at this
 rw[←hu,←hv]at this
 exact⟨this,z41 _⟩
theorem zgT (m D : Nat) (hD : D ≠ 0) (hm : (dig B24 D).length ≤ m) (hl : m < 2 ^ 40) : z1Z P 231 [some (own (j3 (Q7 B24 m D)))] [.sl 0 0 (dig B24 D).length 1]
    (.tup [.sl 0 (v2 D/24) (dig B24 (z3n D)).length 1,.cv (j6 (v2 D:Int))]) [some (own (j3 (X1 (Q7 B24 m D) (v2 D/24) ((dig B24 D).length-v2 D/24) (z3n D))))]:=by
 obtain⟨h1,h2⟩:=z2B hD
 refine z8y _ (U1 (by decide) _ _) (by rw[j8];exact hl) _ _ _ (by rw[j8];exact hm) ?_ h2
 rw[←h1]
 have hlt:=J9 (by decide:2≤B24) D
 have hd:Dig B24 ((Q7 B24 m D).take (dig B24 D).length):=(U1 (by decide) _ _).take _
 have e:=z0N (b:=B24) (Q7 B24 m D) (dig B24 D).length (by rw[j8];exact hm)
 rw[z06,Nat.mod_eq_of_lt (Nat.lt_of_lt_of_le hlt (Nat.pow_le_pow_right (by decide) hm))]at e
 have hv:=z0z (by decide:0<B24) _ hd
 rw[show((Q7 B24 m D).take (dig B24 D).length).length=(dig B24 D).length by simp[j8];omega]at hv
 generalize val B24 ((Q7 B24 m D).drop (dig B24 D).length)=z at e
 generalize val B24 ((Q7 B24 m D).take (dig B24 D).length)=y at e hv ⊢
 rcases Nat.eq_zero_or_pos z with h0|h0
 · subst h0;omega
 · have:=Nat.le_mul_of_pos_right (B24^(dig B24 D).length) h0;omega
end Go.Fw
open Go
namespace Go.Fw
set_option maxRecDepth 100000
theorem V8(xs:List Nat):List.take (xs.length*1) (List.drop 0 (own (j3 xs)))=List.map MV.cv (j3 xs):=by
 rw[Nat.mul_one,List.drop_zero]
 exact List.take_of_length_le (by rw[J1,Q5];exact Nat.le_refl _)
theorem zcQ (n m : Nat) (us vs : List Nat) (hn : n = us.length) (hm : m = vs.length) (hu : us = dig B24 (val B24 us)) (hv : vs = dig B24 (val B24 vs)) (hl : us.length < 2 ^ 40) (hl' : vs.length < 2 ^ 40) :
    PCall P 197 [.lst n (j3 us),.lst m (j3 vs)] (z1X (val B24 us+val B24 vs)):=by
 subst hn hm
 have:=z6E (val B24 us) (val B24 vs) (by rw[←hu];omega) (by rw[←hv];omega)
 unfold z1X at this ⊢
 rw[←hu,←hv]at this
 exact this
end Go.Fw
open Go IntKind
namespace Go.Fw
set_option maxRecDepth 100000
theorem zmN(n m:Nat)(us vs:List Nat)(o0:(0:Int)≤i64.wrap ((n:Int)+m)∧i64.wrap ((n:Int)+m)≤i64.wrap ((n:Int)+m)∧(8:Int)*i64.wrap ((n:Int)+m)≤140737488355328∧i64.wrap ((n:Int)+m)≤4611686018427387904∧1=1)(o1:CvL (List.replicate ((i64.wrap ((n:Int)+m)).toNat*1) (.cv (.lit (.int .i64 0))))){R:CV→Prop}(hR:Ok P 200 (loopHead P 200 0) ⟨J3 63 [(0,.cv (.lst n (j3 us))),(1,.cv (.lst m (j3 vs))),(5,.sl 0 0 (i64.wrap ((n:Int)+m)).toNat 1),(6,.cv (.lit (.int .i64 0)))],[some (List.replicate ((i64.wrap ((n:Int)+m)).toNat*1) (.cv (.lit (.int .i64 0))))]⟩ (.of R)):W6 P 200 [.lst n (j3 us),.lst m (j3 vs)] R:=
 Y4 (keep:=[0,1,5,6]) (σ:=[0]) (.c o0 (.o 9 .stop .nil)) (by kernel_rfl) rfl hR (.cons o1 .nil)
theorem zlE(n:Nat)(us:List Nat)(b:Int)(o0:(0:Int)≤n∧(n:Int)≤n∧(8:Int)*n≤140737488355328∧(n:Int)≤4611686018427387904∧1=1)(o1:CvL (List.replicate ((n:Int).toNat*1) (.cv (.lit (.int .i64 0))))){R:CV→Prop}(hR:Ok P 265 (loopHead P 265 0) ⟨J3 38 [(0,.cv (.lst n (j3 us))),(1,.cv (.lit (.int .i64 b))),(6,.sl 0 0 (n:Int).toNat 1),(7,.cv (.lit (.int .i64 0))),(8,.cv (.lit (.int .i64 (i64.wrap ((n:Int)-1)))))],[some (List.replicate ((n:Int).toNat*1) (.cv (.lit (.int .i64 0))))]⟩ (.of R)):W6 P 265 [.lst n (j3 us),.lit (.int .i64 b)] R:=
 Y4 (keep:=[0,1,6,7,8]) (σ:=[0]) (.c o0 (.o 11 .stop .nil)) (by kernel_rfl) rfl hR (.cons o1 .nil)
theorem zlj(n m:Nat)(us vs:List Nat)(g1:decide (z1j (val B24 us) (val B24 vs)<0)=true)(s4_0:n=us.length)(s4_1:m=vs.length)(s4_2:us=dig 16777216 (val 16777216 us))(s4_3:vs=dig 16777216 (val 16777216 vs))(s4_4:us.length<2^40)(s4_5:vs.length<2^40):PCall P 253 [.lst n (j3 us),.lst m (j3 vs)] (.tup [CV.lit (Value.slice none 0 0),.lst n (j3 us)]):=
 j5 (.r 4 (rorder_v (n) (m) (us) (vs) s4_0 s4_1 s4_2 s4_3 s4_4 s4_5) (.b 6 g1 .nil)) (by kernel_rfl)
end Go.Fw
open Go IntKind
namespace Go.Fw
set_option maxRecDepth 100000
theorem zkg(n m o i:Nat)(us vs zs:List Nat)(h1:decide ((i:Int)<n)=true){R:Goal}(hn:J0 R.n [0]=true)(hR:Ok P 200 (loopHead P 200 1) ⟨J3 63 [(0,.cv (.lst n (j3 us))),(1,.cv (.lst m (j3 vs))),(5,.sl 0 0 o 1),(6,.cv (.lit (.int .i64 (i:Int)))),(7,.cv (.lit (.int .i64 0))),(8,.cv (.lit (.int .i64 0)))],[some (own (j3 zs))]⟩ R):Ok P 200 (loopHead P 200 0) ⟨J3 63 [(0,.cv (.lst n (j3 us))),(1,.cv (.lst m (j3 vs))),(5,.sl 0 0 o 1),(6,.cv (j6 (i:Int)))],[some (own (j3 zs))]⟩ R:=
 z0D (keep:=[0,1,5,6,7,8]) (σ:=[0]) (.b 5 h1 (.o 8 .stop .nil)) (by kernel_rfl) rfl hn hR (.cons (j9 _) .nil)
theorem zjW(n m o i:Nat)(us vs zs:List Nat)(h1:decide ((i:Int)<n)=false)(s7_0:o=zs.length)(s7_1:Dig 16777216 zs)(s7_2:zs.length<2^62)(o2:List.take (o*1) (List.drop 0 (own (j3 zs)))=List.map MV.cv (j3 zs)){R:Goal}(hR:R.c (.lst (dig 16777216 (val 16777216 zs)).length (j3 (dig 16777216 (val 16777216 zs))))):Ok P 200 (loopHead P 200 0) ⟨J3 63 [(0,.cv (.lst n (j3 us))),(1,.cv (.lst m (j3 vs))),(5,.sl 0 0 o 1),(6,.cv (j6 (i:Int)))],[some (own (j3 zs))]⟩ R:=
 okT (.b 5 h1 (.rs 7 [j3 zs] (z0G (o) (zs) s7_0 s7_1 s7_2) (.c o2 .nil))) (by kernel_rfl) hR
theorem zhu(n o:Nat)(b r i:Int)(us zs:List Nat)(h1:decide (i≥0)=true)(o1:(0:Int)≤i∧i<(n:Int))(o2:(j3 us)[i.toNat*1]?=some (.lit (.int .i64 ↑(us.getD (i.toNat*1) 0))))(o4:b≠0)(o5:(0:Int)≤i∧i<(o:Int))(o6:0+i.toNat*1+1≤(own (j3 zs)).length)(o7:b≠0)(o8:CvL (j4 (own (j3 zs)) (0+i.toNat*1) [.cv (.lit (.int .i64 (i64.wrap ((i64.wrap (i64.wrap (r*16777216)+(↑(us.getD (i.toNat*1) 0):Int))).tdiv b))))])){R:Goal}(hn:J0 R.n [0]=true)(hR:Ok P 265 (loopHead P 265 0) ⟨J3 38 [(0,.cv (.lst n (j3 us))),(1,.cv (.lit (.int .i64 b))),(6,.sl 0 0 o 1),(7,.cv (.lit (.int .i64 ((i64.wrap (i64.wrap (r*16777216)+(↑(us.getD (i.toNat*1) 0):Int))).tmod b)))),(8,.cv (.lit (.int .i64 (i64.wrap (i-1)))))],[some (j4 (own (j3 zs)) (0+i.toNat*1) [.cv (.lit (.int .i64 (i64.wrap ((i64.wrap (i64.wrap (r*16777216)+(↑(us.getD (i.toNat*1) 0):Int))).tdiv b))))])]⟩ R):Ok P 265 (loopHead P 265 0) ⟨J3 38 [(0,.cv (.lst n (j3 us))),(1,.cv (j6 b)),(6,.sl 0 0 o 1),(7,.cv (j6 r)),(8,.cv (j6 i))],[some (own (j3 zs))]⟩ R:=
 z0D (keep:=[0,1,6,7,8]) (σ:=[0]) (.b 3 h1 (.c o1 (.l 9 o2 (.c (eqn 1) (.c o4 (.c o5 (.c o6 (.c o7 (.o 26 .stop .nil))))))))) (by kernel_rfl) rfl hn hR (.cons o8 .nil)
theorem zhz(n o:Nat)(b r i:Int)(us zs:List Nat)(h1:decide (i≥0)=false)(s5_0:o=zs.length)(s5_1:Dig 16777216 zs)(s5_2:zs.length<2^62)(o2:List.take (o*1) (List.drop 0 (own (j3 zs)))=List.map MV.cv (j3 zs)){R:Goal}(hR:R.c (.tup [.lst (dig 16777216 (val 16777216 zs)).length (j3 (dig 16777216 (val 16777216 zs))),.lit (.int .i64 r)])):Ok P 265 (loopHead P 265 0) ⟨J3 38 [(0,.cv (.lst n (j3 us))),(1,.cv (j6 b)),(6,.sl 0 0 o 1),(7,.cv (j6 r)),(8,.cv (j6 i))],[some (own (j3 zs))]⟩ R:=
 okT (.b 3 h1 (.rs 5 [j3 zs] (z0G (o) (zs) s5_0 s5_1 s5_2) (.c o2 .nil))) (by kernel_rfl) hR
end Go.Fw
open Go IntKind
namespace Go.Fw
set_option maxRecDepth 100000
theorem zjd(n m o i c k:Nat)(us vs zs:List Nat)(h1:decide ((k:Int)<m)=true)(o1:(0:Int)≤i64.wrap ((i:Int)+k)∧i64.wrap ((i:Int)+k)<(o:Int))(o2:(own (j3 zs))[0+(i64.wrap ((i:Int)+k)).toNat*1]?=some (.cv (.lit (.int .i64 (↑(zs.getD (0+(i64.wrap ((i:Int)+k)).toNat*1) 0):Int)))))(o4:(0:Int)≤i∧(i:Int)<n)(o5:(j3 us)[(i:Int).toNat*1]?=some (.lit (.int .i64 ↑(us.getD ((i:Int).toNat*1) 0))))(o7:(0:Int)≤k∧(k:Int)<m)(o8:(j3 vs)[(k:Int).toNat*1]?=some (.lit (.int .i64 ↑(vs.getD ((k:Int).toNat*1) 0))))(o11:(0:Int)≤i64.wrap ((i:Int)+k)∧i64.wrap ((i:Int)+k)<(o:Int))(o12:0+(i64.wrap ((i:Int)+k)).toNat*1+1≤(own (j3 zs)).length)(o14:CvL (j4 (own (j3 zs)) (0+(i64.wrap ((i:Int)+k)).toNat*1) [.cv (.lit (.int .i64 ((i64.wrap ((c:Int)+i64.wrap ((↑(zs.getD (0+(i64.wrap ((i:Int)+k)).toNat*1) 0):Int)+i64.wrap ((↑(us.getD ((i:Int).toNat*1) 0):Int)*(↑(vs.getD ((k:Int).toNat*1) 0):Int))))).tmod 16777216)))])){R:Goal}(hn:J0 R.n [0]=true)(hR:Ok P 200 (loopHead P 200 1) ⟨J3 63 [(0,.cv (.lst n (j3 us))),(1,.cv (.lst m (j3 vs))),(5,.sl 0 0 o 1),(6,.cv (.lit (.int .i64 (i:Int)))),(7,.cv (.lit (.int .i64 (i64.wrap ((i64.wrap ((c:Int)+i64.wrap ((↑(zs.getD (0+(i64.wrap ((i:Int)+k)).toNat*1) 0):Int)+i64.wrap ((↑(us.getD ((i:Int).toNat*1) 0):Int)*(↑(vs.getD ((k:Int).toNat*1) 0):Int))))).tdiv 16777216))))),(8,.cv (.lit (.int .i64 (i64.wrap ((k:Int)+1)))))],[some (j4 (own (j3 zs)) (0+(i64.wrap ((i:Int)+k)).toNat*1) [.cv (.lit (.int .i64 ((i64.wrap ((c:Int)+i64.wrap ((↑(zs.getD (0+(i64.wrap ((i:Int)+k)).toNat*1) 0):Int)+i64.wrap ((↑(us.getD ((i:Int).toNat*1) 0):Int)*(↑(vs.getD ((k:Int).toNat*1) 0):Int))))).tmod 16777216)))])]⟩ R):Ok P 200 (loopHead P 200 1) ⟨J3 63 [(0,.cv (.lst n (j3 us))),(1,.cv (.lst m (j3 vs))),(5,.sl 0 0 o 1),(6,.cv (j6 (i:Int))),(7,.cv (j6 (c:Int))),(8,.cv (j6 (k:Int)))],[some (own (j3 zs))]⟩ R:=
 z0D (keep:=[0,1,5,6,7,8]) (σ:=[0]) (.b 5 h1 (.c o1 (.e 12 o2 (.c (eqn 1) (.c o4 (.l 16 o5 (.c (eqn 1) (.c o7 (.l 20 o8 (.c (eqn 1) (.c (nz 16777216) (.c o11 (.c o12 (.c (nz 16777216) (.o 39 .stop .nil))))))))))))))) (by kernel_rfl) rfl hn hR (.cons o14 .nil)
theorem zkI(n m o i c k:Nat)(us vs zs:List Nat)(h1:decide ((k:Int)<m)=false)(o1:(0:Int)≤i64.wrap ((i:Int)+m)∧i64.wrap ((i:Int)+m)<(o:Int))(o2:0+(i64.wrap ((i:Int)+m)).toNat*1+1≤(own (j3 zs)).length)(o3:CvL (j4 (own (j3 zs)) (0+(i64.wrap ((i:Int)+m)).toNat*1) [.cv (.lit (.int .i64 (c:Int)))])){R:Goal}(hn:J0 R.n [0]=true)(hR:Ok P 200 (loopHead P 200 0) ⟨J3 63 [(0,.cv (.lst n (j3 us))),(1,.cv (.lst m (j3 vs))),(5,.sl 0 0 o 1),(6,.cv (.lit (.int .i64 (i64.wrap ((i:Int)+1)))))],[some (j4 (own (j3 zs)) (0+(i64.wrap ((i:Int)+m)).toNat*1) [.cv (.lit (.int .i64 (c:Int)))])]⟩ R):Ok P 200 (loopHead P 200 1) ⟨J3 63 [(0,.cv (.lst n (j3 us))),(1,.cv (.lst m (j3 vs))),(5,.sl 0 0 o 1),(6,.cv (j6 (i:Int))),(7,.cv (j6 (c:Int))),(8,.cv (j6 (k:Int)))],[some (own (j3 zs))]⟩ R:=
 z0D (keep:=[0,1,5,6]) (σ:=[0]) (.b 5 h1 (.c o1 (.c o2 (.o 17 .stop .nil)))) (by kernel_rfl) rfl hn hR (.cons o3 .nil)
end Go.Fw
open Go
namespace Go.Fw
set_option maxRecDepth 100000
theorem zeH {R : Goal} (hn : J0 R.n [0] = true) (us vs : List Nat) (hl : us.length + vs.length < 2 ^ 41) (hx : Dig B24 us) (hy : Dig B24 vs) (i : Nat) (hi : i < us.length)
    (hR: ∀zs:List Nat,zs.length=us.length+vs.length→Dig B24 zs→(∀p,i+1+vs.length≤p→zs.getD p 0=0)→val B24 zs=val B24 (us.take (i+1))*val B24 vs→
     Ok P 200 (loopHead P 200 0) ⟨J3 63 [(0,.cv (.lst us.length (j3 us))),(1,.cv (.lst vs.length (j3 vs))),(5,.sl 0 0 (us.length+vs.length) 1),(6,.cv (j6 ((i+1:Nat):Int)))],[some (own (j3 zs))]⟩ R):
    ∀(d k:Nat) (zs:List Nat) (c:Nat),vs.length-k=d→k≤vs.length→zs.length=us.length+vs.length→Dig B24 zs→c<B24→(∀p,i+vs.length≤p→zs.getD p 0=0)→
     val B24 zs+c*B24^(i+k)=val B24 (us.take i)*val B24 vs+us.getD i 0*val B24 (vs.take k)*B24^i→
     Ok P 200 (loopHead P 200 1) ⟨J3 63 [(0,.cv (.lst us.length (j3 us))),(1,.cv (.lst vs.length (j3 vs))),(5,.sl 0 0 (us.length+vs.length) 1),(6,.cv (j6 (i:Int))),(7,.cv (j6 (c:Int))),(8,.cv (j6 (k:Int)))],[some (own (j3 zs))]⟩ R:=by
 intro d
 induction d with
 |zero=>
  intro k zs c hd hk hz hdz hc h0 hv
  have:k=vs.length:=by omega
  subst this
  have e1:IntKind.i64.wrap ((i:Int)+(vs.length:Int))=((i+vs.length:Nat):Int):=by rw[w64 (by omega)];omega
  have e2:(0:Nat)+((i+vs.length:Nat):Int).toNat*1=i+vs.length:=by omega
  have e3:IntKind.i64.wrap ((i:Int)+1)=((i+1:Nat):Int):=by rw[w64 (by omega)];omega
  have hset:j4 (own (j3 zs)) (i+vs.length) [.cv (.lit (.int .i64 (c:Int)))]=own (j3 (zs.set (i+vs.length) c)):=Q8 (by omega)
  refine zkI _ _ _ _ _ _ _ _ _ (by simp) (by rw[e1];omega) (by rw[e1,e2,J1,Q5];omega) (by rw[e1,e2,hset];exact j9 _) hn ?_
  rw[e1,e2,hset,e3]
  refine hR _ (by simpa using hz) (hdz.set hc _) (fun p hp=>?_) ?_
  · rw[z8q _ _ _ _ (by omega),if_neg (by omega)];exact h0 p (by omega)
  · rw[List.take_length]at hv
    exact zd1 (by omega) (h0 _ (Nat.le_refl _)) hv
 |succ d ih=>
  intro k zs c hd hk hz hdz hc h0 hv
  have e1:IntKind.i64.wrap ((i:Int)+(k:Int))=((i+k:Nat):Int):=by rw[w64 (by omega)];omega
  have e2:(0:Nat)+((i+k:Nat):Int).toNat*1=i+k:=by omega
  have e3:IntKind.i64.wrap ((k:Int)+1)=((k+1:Nat):Int):=by rw[w64 (by omega)];omega
  have e4:(i:Int).toNat*1=i:=by omega
  have e5:(k:Int).toNat*1=k:=by omega
  have gx:=Z8 (xs:=us) (i:=(i:Int).toNat*1) (by omega)
  have gy:=Z8 (xs:=vs) (i:=(k:Int).toNat*1) (by omega)
  have gz:=Y7 (Z8 (xs:=zs) (i:=i+k) (by omega))
  have dx:=hx.get (by decide) i
  have dy:=hy.get (by decide) k
  have dz:=hdz.get (by decide) (i+k)
  have hp:us.getD i 0*vs.getD k 0<281474976710656:=by
   have:us.getD i 0*vs.getD k 0≤16777215*16777215:=Nat.mul_le_mul (by simp only[B24]at dx;omega) (by simp only[B24]at dy;omega)
   omega
  have hsum:IntKind.i64.wrap ((c:Int)+IntKind.i64.wrap (((zs.getD (i+k) 0:Nat):Int)+IntKind.i64.wrap (((us.getD i 0:Nat):Int)*((vs.getD k 0:Nat):Int))))=((c+zs.getD (i+k) 0+us.getD i 0*vs.getD k 0:Nat):Int):=by
   rw[show((us.getD i 0:Nat):Int)*((vs.getD k 0:Nat):Int)=((us.getD i 0*vs.getD k 0:Nat):Int) by push_cast;rfl]
   generalize us.getD i 0*vs.getD k 0=s at*
   simp only[B24]at dz hc
   rw[w64 (n:=(s:Int)) (by omega),w64 (n:=_+(s:Int)) (by omega),w64 (by omega)];omega
  obtain⟨_,s2,s3⟩:=z6Y (s:=c+zs.getD (i+k) 0+us.getD i 0*vs.getD k 0) (by simp only[B24]at dz hc;omega)
  have hset:j4 (own (j3 zs)) (i+k) [.cv (.lit (.int .i64 (((c+zs.getD (i+k) 0+us.getD i 0*vs.getD k 0)%B24:Nat):Int)))]=own (j3 (zs.set (i+k) ((c+zs.getD (i+k) 0+us.getD i 0*vs.getD k 0)%B24))):=Q8 (by omega)
  refine zjd _ _ _ _ _ _ _ _ _ (decide_eq_true (by omega)) (by rw[e1];omega) (by rw[e1,e2];exact gz) (by omega) gx (by omega) gy (by rw[e1];omega) (by rw[e1,e2,J1,Q5];omega)
   (by rw[e1,e2,e4,e5,hsum,s2,hset];exact j9 _) hn ?_
  rw[e1,e2,e3,e4,e5,hsum,s2,s3,hset]
  refine ih (k+1) _ _ (by omega) (by omega) (by simpa using hz) (hdz.set (Nat.mod_lt _ (by decide)) _) (zf1 hc dz dx dy) (fun p hp=>?_) ?_
  · rw[z8q _ _ _ _ (by omega),if_neg (by omega)];exact h0 p hp
  · exact zaH (by omega) hv
theorem z8H {R : Goal} (hn : J0 R.n [0] = true) (us vs : List Nat) (hl : us.length + vs.length < 2 ^ 41) (hx : Dig B24 us) (hy : Dig B24 vs)
    (hE: ∀zs:List Nat,zs.length=us.length+vs.length→Dig B24 zs→val B24 zs=val B24 us*val B24 vs→
     Ok P 200 (loopHead P 200 0) ⟨J3 63 [(0,.cv (.lst us.length (j3 us))),(1,.cv (.lst vs.length (j3 vs))),(5,.sl 0 0 (us.length+vs.length) 1),(6,.cv (j6 (us.length:Int)))],[some (own (j3 zs))]⟩ R):
    ∀(d i:Nat) (zs:List Nat),us.length-i=d→i≤us.length→zs.length=us.length+vs.length→Dig B24 zs→(∀p,i+vs.length≤p→zs.getD p 0=0)→val B24 zs=val B24 (us.take i)*val B24 vs→
     Ok P 200 (loopHead P 200 0) ⟨J3 63 [(0,.cv (.lst us.length (j3 us))),(1,.cv (.lst vs.length (j3 vs))),(5,.sl 0 0 (us.length+vs.length) 1),(6,.cv (j6 (i:Int)))],[some (own (j3 zs))]⟩ R:=by
 intro d
 induction d with
 |zero=>
  intro i zs hd hi hz hdz h0 hv
  have:i=us.length:=by omega
  subst this
  rw[List.take_length]at hv
  exact hE zs hz hdz hv
 |succ d ih=>
  intro i zs hd hi hz hdz h0 hv
  refine zkg _ _ _ _ _ _ _ (decide_eq_true (by omega)) hn ?_
  refine zeH hn us vs hl hx hy i (by omega) (fun zs' h1 h2 h3 h4=>ih (i+1) zs' (by omega) (by omega) h1 h2 (fun p hp=>h3 p (by omega)) h4) _ 0 zs 0 rfl (Nat.zero_le _) hz hdz (by decide) h0 ?_
  rw[hv];simp[val]
theorem zgp (n m : Nat) (us vs : List Nat) (hn : n = us.length) (hm : m = vs.length) (hu : Dig B24 us) (hv : Dig B24 vs) (hl : us.length < 2 ^ 40) (hl' : vs.length < 2 ^ 40) :
    PCall P 200 [.lst n (j3 us),.lst m (j3 vs)] (z1X (val B24 us*val B24 vs)):=by
 subst hn hm
 have e1:IntKind.i64.wrap ((us.length:Int)+(vs.length:Int))=((us.length+vs.length:Nat):Int):=by rw[w64 (by omega)];omega
 have e2:((us.length+vs.length:Nat):Int).toNat=us.length+vs.length:=by omega
 refine X6 (zmN _ _ _ _ (by rw[e1];omega) (by rw[V7];exact j9 _) ?_)
 rw[V7,e1,e2,Nat.mul_one]
 exact z8H (R:= .of fun v=>v=z1X (val B24 us*val B24 vs)) rfl us vs (by omega) hu hv (fun zs hz hdz hv=>by
  refine zjW _ _ _ _ _ _ _ (by simp) hz.symm hdz (by omega) (by rw[←hz];exact V8 _) ?_
  rw[show(16777216:Nat)=B24 from rfl,hv];rfl) _ 0 (List.replicate (us.length+vs.length) 0) rfl (Nat.zero_le _) (by simp) (Dig.replicate (by decide) _) (fun p _=>by simp[List.getD_eq_getElem?_getD,List.getElem?_replicate];split<;>rfl) (by simp[val,z1u])
end Go.Fw
