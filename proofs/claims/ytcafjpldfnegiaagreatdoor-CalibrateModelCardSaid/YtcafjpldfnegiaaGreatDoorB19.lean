/- A part of the proof that the law returns true for every input: an executor for the model's code, and what functions of the program compute. -/
import Derived.Test.YtcafjpldfnegiaaGreatDoorB11
import Derived.Test.YtcafjpldfnegiaaGreatDoorB15
import Derived.Test.YtcafjpldfnegiaaGreatDoorB16
import Derived.Test.YtcafjpldfnegiaaGreatDoorB17
import Derived.Test.YtcafjpldfnegiaaGreatDoorB18
import Derived.KernelRfl
open Go IntKind
namespace Go.Fw
set_option maxRecDepth 100000
def J2(z:Int):CV:= .agg [.lit (.bool (decide (z<0))),.lit (.string (bytesOf z.natAbs))]
def sgn(b:Bool)(n:Nat):Int:=if b then-(n:Int)else n
theorem Q3(n:Nat):((bytesOf n).toList==[])=decide (n=0):=by
 rw[Y9]
 simp only[Z9]
theorem zeI(a:Nat)(b:Bool)(ha:(dig B32 a).length<2^36):PCall P 240 [z0c a,.lit (.bool b)] (J2 (sgn b a)):=by
 cases b with
 |true=>
  refine(zhj a true rfl ha).eq ?_
  rw[Q3,J2,sgn]
  simp only[if_true,Int.natAbs_neg,Int.natAbs_natCast]
  congr 4
  by_cases h:a=0
  · subst h;rfl
  · simp[h];omega
 |false=>
  refine(zhd a false rfl ha).eq ?_
  rw[J2,sgn]
  simp
theorem zdl(n:Nat)(hn:n<18446744073709551616):PCall P 245 [.lit (.int .u64 (n:Int))] (z0c n):=by
 have e1:u32.wrap (n:Int)=((n%4294967296:Nat):Int):=by rw[z87];omega
 have e2:u32.wrap ((n:Int).fdiv 4294967296)=((n/4294967296:Nat):Int):=by rw[fdp _ (by decide),z87];omega
 have:=zhy n (by rw[e1];omega) (by rw[e1];omega) (by rw[e2];omega) (by rw[e2];omega) rfl
 rw[e1,e2,show(((n%4294967296:Nat):Int)+4294967296*((n/4294967296:Nat):Int)).toNat=n by omega]at this
 exact this
def Sml(n:Nat):Prop:=(dig 256 n).length<1073741824
theorem Sml.of_lt{n k:Nat}(h:n<256^k)(hk:k<1073741824):Sml n:=Nat.lt_of_le_of_lt (Q1 (by decide) h) hk
theorem Sml.lt{n:Nat}(h:Sml n): ∃k,k<1073741824∧n<256^k:=⟨_,h,J8 (by decide) n⟩
theorem Sml.mono{m n:Nat}(h:Sml n)(hm:m≤n):Sml m:=Nat.lt_of_le_of_lt (dig_length_mono' hm) h
 where dig_length_mono' {m n:Nat} (h:m≤n):(dig 256 m).length≤(dig 256 n).length:=Q1 (by decide) (Nat.lt_of_le_of_lt h (J8 (by decide) n))
theorem Sml.dig32{n:Nat}(h:Sml n):(dig B32 n).length<2^30:=by
 have:n<B32^(dig 256 n).length:=Nat.lt_of_lt_of_le (J8 (by decide:2≤256) n) (Nat.pow_le_pow_left (by decide) _)
 exact Nat.lt_of_le_of_lt (Q1 (by decide) this) h
theorem Sml.size{n:Nat}(h:Sml n):(bytesOf n).size<2^30:=by rw[z0p];exact h
theorem z2j{n:Nat}(h:n≠0):((bytesOf n).data.getD 0 0).toNat≠0:=by
 have hne:dig 256 n≠[]:=by rw[Ne,z4s (by decide)];exact h
 have hc:=U2 hne
 have ht:=zia (by decide:2≤256) n
 have hlt:=(Y8 (by decide:2≤256) n).get (by decide) ((dig 256 n).length-1)
 rw[bytesOf,hc,z3K]
 intro e
 have e0:(dig 256 n).getD ((dig 256 n).length-1) 0=0:=by
  simp only[UInt8.toNat_ofNat']at e;omega
 rw[e0]at hc
 rw[hc,W6]at ht
 have h1:=congrArg List.length ht
 have: ∀l:List Nat,(tz l).length≤l.length:=by
  intro l
  induction l with
  |nil=>simp[tz]
  |cons x l ih=>rw[z3J];split<;>(try split)<;>simp;omega
 have h2:=this ((dig 256 n).take ((dig 256 n).length-1))
 simp at h1 h2
 omega
theorem J7(z:Int):PCall P 214 [J2 z] (.lit (.bool true)):=by
 refine(W9 _ _).eq ?_
 rw[J5]
 by_cases h:z=0
 · subst h;rfl
 · have:(bytesOf z.natAbs).size≠0:=by rw[Ne,Z9];omega
   rw[if_neg this]
   have:=z2j (n:=z.natAbs) (by omega)
   rw[decide_eq_true this]
theorem U5(n:Nat)(h:Sml n):PCall P 238 [X1 (bytesOf n)] (z0c n):=by
 have:=of_spec (bytesOf n) (by have:=h.size;omega)
 rw[z0d]at this
 exact this
theorem U9(a:Nat)(b:Bool)(ha:Sml a):PCall P 240 [z0c a,.lit (.bool b)] (J2 (sgn b a)):=zeI a b (by have:=ha.dig32;omega)
theorem z7H(n:Int)(h0:0≤n)(h1:n<18446744073709551616):PCall P 245 [.lit (.int .u64 n)] (z0c n.toNat):=by
 have:=zdl n.toNat (by omega)
 rw[show((n.toNat:Nat):Int)=n by omega]at this
 exact this
theorem zeM(n:Nat)(xs:List Nat){R:CV→Prop}(hR:Ok P 234 (loopHead P 234 0) ⟨J1 21 [(0,.cv (.lst n (j4 xs)))],[]⟩ (.of R)):Y3 P 234 [.lst n (j4 xs)] R:=
 Z6 (keep:=[0]) (σ:=[]) (.o 1 .stop .nil) (by kernel_rfl) rfl hR .nil
theorem zdN(n:Nat)(xs:List Nat)(o0:CvL (own (j4 xs))){Q:MV→List Blk→Prop}(hR:Ok P 234 (loopHead P 234 0) ⟨J1 21 [(0,.sl 0 0 n 1)],[some (own (j4 xs))]⟩ (.lent [some (own (j4 xs))].length Q)):z3m P 234 [some (own (j4 xs))] [.sl 0 0 n 1] Q:=
 z90 (keep:=[0]) (σ:=[0]) (ors:=[(1,.stop)]) (by kernel_rfl) rfl (.cons o0 .nil) rfl hR
theorem zft(n:Nat)(xs:List Nat)(h1:(decide ((n:Int)>0))=true)(h2:((↑(xs.getD ((i64.wrap ((n:Int)-1)).toNat*1) 0):Int)==0)=true)(o1:(0:Int)≤i64.wrap ((n:Int)-1)∧i64.wrap ((n:Int)-1)<(n:Int))(o2:(j4 xs)[(i64.wrap ((n:Int)-1)).toNat*1]?=some (.lit (.int .i64 (↑(xs.getD ((i64.wrap ((n:Int)-1)).toNat*1) 0):Int))))(o5:(0:Int)≤0∧(0:Int)≤i64.wrap ((n:Int)-1)∧i64.wrap ((n:Int)-1)≤(n:Int))(o6:(j4 xs).length=n*1){R:Goal}(hn:j7 R.n []=true)(hR:Ok P 234 (loopHead P 234 0) ⟨J1 21 [(0,.cv (.lst (i64.wrap ((n:Int)-1)-0).toNat (List.take ((i64.wrap ((n:Int)-1)-0).toNat*1) (List.drop 0 (j4 xs)))))],[]⟩ R):Ok P 234 (loopHead P 234 0) ⟨J1 21 [(0,.cv (.lst n (j4 xs)))],[]⟩ R:=
 z07 (keep:=[0]) (σ:=[]) (.b 4 h1 (.c o1 (.l 10 o2 (.c (eqn 1) (.b 13 h2 (.c o5 (.c o6 (.o 20 .stop .nil)))))))) (by kernel_rfl) rfl hn hR .nil
theorem zfr(n:Nat)(xs:List Nat)(h1:(decide ((n:Int)>0))=true)(h2:((↑(xs.getD ((i64.wrap ((n:Int)-1)).toNat*1) 0):Int)==0)=false)(o1:(0:Int)≤i64.wrap ((n:Int)-1)∧i64.wrap ((n:Int)-1)<(n:Int))(o2:(j4 xs)[(i64.wrap ((n:Int)-1)).toNat*1]?=some (.lit (.int .i64 (↑(xs.getD ((i64.wrap ((n:Int)-1)).toNat*1) 0):Int)))){R:Goal}(hR:R.c (.lst n (j4 xs))):Ok P 234 (loopHead P 234 0) ⟨J1 21 [(0,.cv (.lst n (j4 xs)))],[]⟩ R:=
 okT (.b 4 h1 (.c o1 (.l 10 o2 (.c (eqn 1) (.b 13 h2 .nil))))) (by kernel_rfl) hR
theorem zeL(n:Nat)(xs:List Nat)(h1:(decide ((n:Int)>0))=false){R:Goal}(hR:R.c (.lst n (j4 xs))):Ok P 234 (loopHead P 234 0) ⟨J1 21 [(0,.cv (.lst n (j4 xs)))],[]⟩ R:=
 okT (.b 4 h1 .nil) (by kernel_rfl) hR
theorem zbz(n:Nat)(xs:List Nat)(h1:(decide ((n:Int)>0))=true)(h2:((↑(xs.getD (0+(i64.wrap ((n:Int)-1)).toNat*1) 0):Int)==0)=true)(o1:(0:Int)≤i64.wrap ((n:Int)-1)∧i64.wrap ((n:Int)-1)<(n:Int))(o2:(own (j4 xs))[0+(i64.wrap ((n:Int)-1)).toNat*1]?=some (.cv (.lit (.int .i64 (↑(xs.getD (0+(i64.wrap ((n:Int)-1)).toNat*1) 0):Int)))))(o5:(0:Int)≤0∧(0:Int)≤i64.wrap ((n:Int)-1)∧i64.wrap ((n:Int)-1)≤(n:Int)∧((0:Int)=0∨(0:Int)<i64.wrap ((n:Int)-1)))(o6:CvL (own (j4 xs))){R:Goal}(hn:j7 R.n [0]=true)(hR:Ok P 234 (loopHead P 234 0) ⟨J1 21 [(0,.sl 0 0 (i64.wrap ((n:Int)-1)-0).toNat 1)],[some (own (j4 xs))]⟩ R):Ok P 234 (loopHead P 234 0) ⟨J1 21 [(0,.sl 0 0 n 1)],[some (own (j4 xs))]⟩ R:=
 z1z (m:=1) (keep:=[0]) (σ:=[0]) (.b 4 h1 (.c o1 (.e 10 o2 (.c (eqn 1) (.b 13 h2 (.c o5 (.o 20 .stop .nil))))))) (by kernel_rfl) rfl hn hR (.cons o6 .nil)
theorem zbH(n:Nat)(xs:List Nat)(h1:(decide ((n:Int)>0))=true)(h2:((↑(xs.getD (0+(i64.wrap ((n:Int)-1)).toNat*1) 0):Int)==0)=false)(o1:(0:Int)≤i64.wrap ((n:Int)-1)∧i64.wrap ((n:Int)-1)<(n:Int))(o2:(own (j4 xs))[0+(i64.wrap ((n:Int)-1)).toNat*1]?=some (.cv (.lit (.int .i64 (↑(xs.getD (0+(i64.wrap ((n:Int)-1)).toNat*1) 0):Int)))))(o6:BlksCv [some (own (j4 xs))]){R:Goal}(hn:R.Lent 1)(hR:R.m (.sl 0 0 n 1) [some (own (j4 xs))]):Ok P 234 (loopHead P 234 0) ⟨J1 21 [(0,.sl 0 0 n 1)],[some (own (j4 xs))]⟩ R:=
 zhU (ors:=[(4,.b true),(10,.e (.cv (.lit (.int .i64 (↑(xs.getD (0+(i64.wrap ((n:Int)-1)).toNat*1) 0):Int))))),(13,.b false),(16,.a)]) (by kernel_rfl) (.cons h1 (.cons o1 (.cons o2 (.cons (eqn 1) (.cons h2 (.cons (lq 1 1) (.cons o6 .nil))))))) hn hR
theorem zct(n:Nat)(xs:List Nat)(h1:(decide ((n:Int)>0))=false)(o2:BlksCv [some (own (j4 xs))]){R:Goal}(hn:R.Lent 1)(hR:R.m (.sl 0 0 n 1) [some (own (j4 xs))]):Ok P 234 (loopHead P 234 0) ⟨J1 21 [(0,.sl 0 0 n 1)],[some (own (j4 xs))]⟩ R:=
 zhU (ors:=[(4,.b false),(16,.a)]) (by kernel_rfl) (.cons h1 (.cons (lq 1 1) (.cons o2 .nil))) hn hR
theorem z96(b:Bool)(s:ByteArray)(h1:(s.toList==[])=true):PCall P 193 [.agg [.lit (.bool b),.lit (.string s)]] (.lit (.bool !b)):=
 j3 (.b 5 h1 .nil) (by kernel_rfl)
theorem z8n(b:Bool)(s:ByteArray)(h1:(s.toList==[])=false)(o1:(0:Int)≤0∧(0:Int)<(↑s.size:Int)):PCall P 193 [.agg [.lit (.bool b),.lit (.string s)]] (.lit (.bool ((↑(s.data.getD 0 (OfNat.ofNat 0)).toNat:Int) != 0))):=
 j3 (.b 5 h1 (.c o1 .nil)) (by kernel_rfl)
theorem zbX(s:ByteArray)(o1:(0:Int)≤i64.wrap ((i64.wrap ((↑s.size:Int)+2)).tdiv 3)∧i64.wrap ((i64.wrap ((↑s.size:Int)+2)).tdiv 3)≤i64.wrap ((i64.wrap ((↑s.size:Int)+2)).tdiv 3)∧(8:Int)*i64.wrap ((i64.wrap ((↑s.size:Int)+2)).tdiv 3)≤140737488355328∧i64.wrap ((i64.wrap ((↑s.size:Int)+2)).tdiv 3)≤4611686018427387904∧1=1)(o2:CvL (List.replicate ((i64.wrap ((i64.wrap ((↑s.size:Int)+2)).tdiv 3)).toNat*1) (.cv (.lit (.int .i64 0))))){Q:MV→List CV→Prop}(hR:Ok P 195 (loopHead P 195 0) ⟨J1 38 [(0,.cv (.lit (.string s))),(3,.sl 0 0 (i64.wrap ((i64.wrap ((↑s.size:Int)+2)).tdiv 3)).toNat 1),(4,.cv (.lit (.int .i64 0)))],[some (List.replicate ((i64.wrap ((i64.wrap ((↑s.size:Int)+2)).tdiv 3)).toNat*1) (.cv (.lit (.int .i64 0))))]⟩ (.fresh (z46 Q))):z59 P 195 [.lit (.string s)] Q:=
 zaA (keep:=[0,3,4]) (σ:=[0]) (ors:=[(8,.stop)]) (by kernel_rfl) rfl (.cons (nz 3) (.cons o1 (.cons o2 .nil))) hR
theorem zbE(s:ByteArray)(m i:Nat)(zs:List Nat)(h1:(decide ((i:Int)<(↑s.size:Int)))=true)(o2:(0:Int)≤i64.wrap ((i:Int).tdiv 3)∧i64.wrap ((i:Int).tdiv 3)<(m:Int))(o3:(own (j4 zs))[0+(i64.wrap ((i:Int).tdiv 3)).toNat*1]?=some (.cv (.lit (.int .i64 (↑(zs.getD (0+(i64.wrap ((i:Int).tdiv 3)).toNat*1) 0):Int)))))(o5:(0:Int)≤i64.wrap (i64.wrap ((↑s.size:Int)-1)-(i:Int))∧i64.wrap (i64.wrap ((↑s.size:Int)-1)-(i:Int))<(↑s.size:Int))(o7:(0:Int)≤i64.wrap ((8:Int)*(i:Int).tmod 3))(o8:(0:Int)≤i64.wrap ((i:Int).tdiv 3)∧i64.wrap ((i:Int).tdiv 3)<(m:Int))(o9:0+(i64.wrap ((i:Int).tdiv 3)).toNat*1+1≤(own (j4 zs)).length)(o10:CvL (j6 (own (j4 zs)) (0+(i64.wrap ((i:Int).tdiv 3)).toNat*1) [.cv (.lit (.int .i64 (i64.wrap ((↑(zs.getD (0+(i64.wrap ((i:Int).tdiv 3)).toNat*1) 0):Int)+i64.wrap (i64.wrap (↑(s.data.getD (i64.wrap (i64.wrap ((↑s.size:Int)-1)-(i:Int))).toNat (OfNat.ofNat 0)).toNat:Int)*2^min (i64.wrap ((8:Int)*(i:Int).tmod 3)).toNat 64)))))])){R:Goal}(hn:j7 R.n [0]=true)(hR:Ok P 195 (loopHead P 195 0) ⟨J1 38 [(0,.cv (.lit (.string s))),(3,.sl 0 0 m 1),(4,.cv (.lit (.int .i64 (i64.wrap ((i:Int)+1)))))],[some (j6 (own (j4 zs)) (0+(i64.wrap ((i:Int).tdiv 3)).toNat*1) [.cv (.lit (.int .i64 (i64.wrap ((↑(zs.getD (0+(i64.wrap ((i:Int).tdiv 3)).toNat*1) 0):Int)+i64.wrap (i64.wrap (↑(s.data.getD (i64.wrap (i64.wrap ((↑s.size:Int)-1)-(i:Int))).toNat (OfNat.ofNat 0)).toNat:Int)*2^min (i64.wrap ((8:Int)*(i:Int).tmod 3)).toNat 64)))))])]⟩ R):Ok P 195 (loopHead P 195 0) ⟨J1 38 [(0,.cv (.lit (.string s))),(3,.sl 0 0 m 1),(4,.cv (.lit (.int .i64 (i:Int))))],[some (own (j4 zs))]⟩ R:=
 z1z (m:=1) (keep:=[0,3,4]) (σ:=[0]) (.b 5 h1 (.c (nz 3) (.c o2 (.e 16 o3 (.c (eqn 1) (.c o5 (.c (nz 3) (.c o7 (.c o8 (.c o9 (.o 31 .stop .nil))))))))))) (by kernel_rfl) rfl hn hR (.cons o10 .nil)
theorem zc0(s:ByteArray)(m i:Nat)(zs:List Nat)(h1:(decide ((i:Int)<(↑s.size:Int)))=false)(o1:CvL (own (j4 zs))){R:Goal}(hn:R.Fresh)(hR:R.m (.sl 0 0 m 1) [some (own (j4 zs))]):Ok P 195 (loopHead P 195 0) ⟨J1 38 [(0,.cv (.lit (.string s))),(3,.sl 0 0 m 1),(4,.cv (.lit (.int .i64 (i:Int))))],[some (own (j4 zs))]⟩ R:=
 zsy 1 (ors:=[(5,.b false),(8,.m [0] MV.unk [])]) (by kernel_rfl) (.cons h1 (.cons o1 .nil)) hn hR
theorem zdv(xs:List Nat)(k:Nat):(j4 xs).take k=j4 (xs.take k):=by simp[j4]
theorem z7E{xs:List Nat}{i:Nat}(h:i<xs.length):(j4 xs)[i]?=some (CV.lit (.int .i64 (xs.getD i 0:Nat))):=Y2 h
theorem zbD {R : Goal} (hn : j7 R.n [] = true) : ∀ (k : Nat) (xs : List Nat), xs.length = k → k < 2 ^ 62 → R.c (.lst (tz xs).length (j4 (tz xs))) →
    Ok P 234 (loopHead P 234 0) ⟨J1 21 [(0,.cv (.lst xs.length (j4 xs)))],[]⟩ R:=by
 intro k
 induction k with
 |zero=>
  intro xs hl _ hR
  have:xs=[]:=List.length_eq_zero_iff.1 hl
  subst this
  exact zeL 0 [] (by decide) hR
 |succ k ih=>
  intro xs hl hk hR
  have hw:i64.wrap ((xs.length:Int)-1)=(k:Int):=by rw[hl,w64 (by omega)];omega
  have hne:xs≠[]:=by intro e;subst e;simp at hl
  have hcon:=U2 hne
  rw[hl,Nat.add_sub_cancel]at hcon
  have hget:(j4 xs)[k]?=some (z2S xs k):=Y2 (by omega)
  by_cases hx:xs.getD k 0=0
  · refine zft xs.length xs (by simp;omega) (by rw[hw];simpa using hx) (by rw[hw];omega) (by rw[hw];simpa[z2S]using hget) (by rw[hw];omega) (by simp[j4]) hn ?_
    rw[hw]
    have h1:((k:Int)-0).toNat=k:=by omega
    rw[h1,Nat.mul_one,List.drop_zero,zdv]
    have h2:(xs.take k).length=k:=by simp;omega
    have:=ih (xs.take k) h2 (by omega) (by rw[hcon,hx,W6]at hR;exact hR)
    rw[h2]at this
    exact this
  · refine zfr xs.length xs (by simp;omega) (by rw[hw];simpa using hx) (by rw[hw];omega) (by rw[hw];simpa[z2S]using hget) ?_
    rw[hcon,z0P hx,←hcon]at hR
    exact hR
theorem z0X(n:Nat)(xs:List Nat)(hn:n=xs.length)(hd:Dig B24 xs)(hl:xs.length<2^62):PCall P 234 [.lst n (j4 xs)] (z0r (val B24 xs)):=by
 subst hn
 refine zeM xs.length xs (zbD rfl _ xs rfl hl ?_)
 exact zmG hd
theorem z9x {R : Goal} (hn : j7 R.n [0] = true) (hL : R.Lent 1) (xs : List Nat) (hl : xs.length < 2 ^ 62) (hR : R.m (.sl 0 0 (tz xs).length 1) [some (own (j4 xs))]) : ∀ (k : Nat), k ≤ xs.length → tz (xs.take k) = tz xs →
    Ok P 234 (loopHead P 234 0) ⟨J1 21 [(0,.sl 0 0 k 1)],[some (own (j4 xs))]⟩ R:=by
 intro k
 induction k with
 |zero=>
  intro hk ht
  rw[List.take_zero]at ht
  rw[←ht]at hR
  exact zct 0 xs (by decide) (BlksCv.one (J0 _)) hL hR
 |succ k ih=>
  intro hk ht
  have hw:i64.wrap (((k+1:Nat):Int)-1)=(k:Int):=by rw[w64 (by omega)];omega
  have e0:(0:Nat)+(k:Int).toNat*1=k:=by omega
  have hts:=z0Y (xs:=xs) (i:=k) (by omega)
  by_cases hx:xs.getD k 0=0
  · refine zbz (k+1) xs (by simp) (by rw[hw,e0];simpa using hx) (by rw[hw];omega) (by rw[hw,e0];exact W5 (z7E (by omega))) (by rw[hw];omega) (J0 _) hn ?_
    rw[hw]
    have h1:((k:Int)-0).toNat=k:=by omega
    rw[h1]
    exact ih (by omega) (by rw[←ht,hts,hx,W6])
  · have:(tz xs).length=k+1:=by rw[←ht,hts,z0P hx];simp;omega
    rw[this]at hR
    exact zbH (k+1) xs (by simp) (by rw[hw,e0];simpa using hx) (by rw[hw];omega) (by rw[hw,e0];exact W5 (z7E (by omega))) (BlksCv.one (J0 _)) hL hR
theorem z6M(n:Nat)(xs:List Nat)(hn:n=xs.length)(hl:xs.length<2^62):z2l P 234 [some (own (j4 xs))] [.sl 0 0 n 1] (.sl 0 0 (tz xs).length 1) [some (own (j4 xs))]:=by
 subst hn
 exact zdN _ _ (J0 _) (z9x (R:= .lent 1 (fun a b=>a= .sl 0 0 (tz xs).length 1∧b=[some (own (j4 xs))])) rfl ⟨rfl,rfl⟩ xs hl ⟨rfl,rfl⟩ _ (Nat.le_refl _) (by rw[List.take_length]))
theorem J6(b:Bool)(s:ByteArray):PCall P 193 [.agg [.lit (.bool b),X1 s]] (.lit (.bool (J5 b s))):=by
 by_cases h:s.size=0
 · refine(z96 b s (by rw[Y9];simpa using h)).eq ?_
   simp[J5,h]
 · refine(z8n b s (by rw[Y9];simpa using h) (by omega)).eq ?_
   rw[J5,if_neg h]
   congr 2
   rw[show(OfNat.ofNat 0:UInt8)=0 from rfl]
   generalize (s.data.getD 0 0).toNat=n
   by_cases hn:n=0
   · subst hn;rfl
   · have:(n:Int)≠0:=by omega
     simp[hn]
theorem J3(z:Int):PCall P 193 [J2 z] (.lit (.bool true)):=by
 refine(J6 _ _).eq ?_
 rw[J5]
 by_cases h:z=0
 · subst h;rfl
 · have:(bytesOf z.natAbs).size≠0:=by rw[Ne,Z9];omega
   rw[if_neg this]
   have:=z2j (n:=z.natAbs) (by omega)
   rw[decide_eq_true this]
theorem z9u {R : Goal} (hn : j7 R.n [0] = true) (hF : R.Fresh) (s : ByteArray) (hs : s.size < 2 ^ 40) (hR : R.m (.sl 0 0 ((s.size + 2) / 3) 1) [some (own (j4 (Z1 B24 ((s.size + 2) / 3) (J9 s))))]) :
    ∀(k i:Nat),s.size-i=k→i≤s.size→
    Ok P 195 (loopHead P 195 0) ⟨J1 38 [(0,.cv (.lit (.string s))),(3,.sl 0 0 ((s.size+2)/3) 1),(4,.cv (.lit (.int .i64 i)))],
     [some (own (j4 (Z1 B24 ((s.size+2)/3) (val 256 ((z2B s).take i)))))]⟩ R:=by
 intro k
 induction k with
 |zero=>
  intro i hk hi
  have:i=s.size:=by omega
  subst this
  have hv:val 256 ((z2B s).take s.size)=J9 s:=by rw[←V8,List.take_length];rfl
  rw[hv]
  exact zc0 s _ s.size _ (by simp) (J0 _) hF hR
 |succ k ih=>
  intro i hk hi
  have hlt:i<s.size:=by omega
  have hlen:=j9 B24 ((s.size+2)/3) (val 256 ((z2B s).take i))
  have hbyte:=(z1K s).get (by decide) i
  have hget:=z7k s hlt
  have hv:=V5 (b:=256) (xs:=z2B s) (i:=i) (by rw[V8];exact hlt)
  have hvlt:val 256 ((z2B s).take i)<256^i:=by
   have:=z0I (by decide:0<256) _ ((z1K s).take i)
   rw[List.length_take,V8,Nat.min_eq_left (Nat.le_of_lt hlt)]at this
   exact this
  generalize (z2B s).getD i 0=d at*
  generalize val 256 ((z2B s).take i)=v at*
  generalize hm:(s.size+2)/3=m at*
  have hjm:i/3<m:=by omega
  have hdg:=W4 B24 m v (i/3) hjm
  have hpow:(256:Nat)^i=B24^(i/3)*256^(i%3):=by
   rw[show B24=256^3 from rfl,←Nat.pow_mul,←Nat.pow_add,Nat.div_add_mod]
  have hq:v/B24^(i/3)<256^(i%3):=by
   rw[Nat.div_lt_iff_lt_mul (Nat.pow_pos (by decide)),Nat.mul_comm,←hpow];exact hvlt
  have hp3:(256:Nat)^(i%3)≤65536:=by
   rw[show(65536:Nat)=256^2 from rfl];exact Nat.pow_le_pow_right (by decide) (by omega)
  have hqm:v/B24^(i/3)%B24=v/B24^(i/3):=Nat.mod_eq_of_lt (by simp only[B24]at*;omega)
  have hr:(256:Nat)^(i%3)=2^(8*(i%3)):=by rw[show(256:Nat)=2^8 from rfl,←Nat.pow_mul]
  have hdr:d*256^(i%3)+v/B24^(i/3)<B24:=by
   have:(d+1)*256^(i%3)≤256*256^(i%3):=Nat.mul_le_mul_right _ hbyte
   have h4:256*256^(i%3)≤B24:=by simp only[B24];omega
   rw[Nat.add_mul,Nat.one_mul]at this
   omega
  have e1:i64.wrap ((i:Int).tdiv 3)=((i/3:Nat):Int):=by rw[Int.tdiv_eq_ediv_of_nonneg (by omega),w64 (by omega)];omega
  have e2:i64.wrap (i64.wrap ((s.size:Int)-1)-(i:Int))=((s.size-1-i:Nat):Int):=by rw[w64 (n:=(s.size:Int)-1) (by omega),w64 (by omega)];omega
  have e3:i64.wrap (8*(i:Int).tmod 3)=((8*(i%3):Nat):Int):=by rw[Int.tmod_eq_emod_of_nonneg (by omega),w64 (by omega)];omega
  have e4:i64.wrap ((i:Int)+1)=((i+1:Nat):Int):=by rw[w64 (by omega)];omega
  have e5:(0:Nat)+((i/3:Nat):Int).toNat*1=i/3:=by omega
  have e6:min (((8*(i%3):Nat):Int)).toNat 64=8*(i%3):=by omega
  have e7:i64.wrap (((Z1 B24 m v).getD (i/3) 0:Nat)+i64.wrap (i64.wrap (((s.data.getD (((s.size-1-i:Nat):Int)).toNat (OfNat.ofNat 0)).toNat:Nat):Int)*2^min (((8*(i%3):Nat):Int)).toNat 64))=((v/B24^(i/3)%B24+d*256^(i%3):Nat):Int):=by
   rw[e6,hdg,hqm,show(((s.size-1-i:Nat):Int)).toNat=s.size-1-i by omega,show(OfNat.ofNat 0:UInt8)=0 from rfl,←hget]
   have h5:i64.wrap (d:Int)=d:=w64 (by omega)
   have h6:(d:Int)*2^(8*(i%3))=((d*2^(8*(i%3)):Nat):Int):=by norm_cast
   rw[h5,h6,←hr]
   simp only[B24]at*
   rw[w64 (n:=((d*256^(i%3):Nat):Int)) (by omega),w64 (by omega)];omega
  refine zbE s m i _ (by simp;omega) (by rw[e1];omega) ?_ (by rw[e2];omega) (by rw[e3];omega) (by rw[e1];omega) (by rw[e1,e5,J4,Q9,hlen];omega) ?_ hn ?_
  · rw[e1,e5];exact W5 (Y2 (by rw[hlen];exact hjm))
  · rw[e1,e2,e3,e5,e7,Z3 (by rw[hlen];exact hjm)];exact J0 _
  · rw[e1,e2,e3,e4,e5,e7,Z3 (by rw[hlen];exact hjm),z1g (by decide) m v _ _ hjm (by rw[hqm];omega)]
    have h7:v+d*256^(i%3)*B24^(i/3)=v+256^i*d:=by rw[hpow,Nat.mul_assoc,Nat.mul_comm,Nat.mul_comm (256^(i%3))]
    rw[h7,←hv]
    exact ih (i+1) (by omega) (by omega)
theorem z8B(s:ByteArray)(hs:s.size<2^40):FCall P 195 [X1 s] (.sl 0 0 ((s.size+2)/3) 1) (j4 (Z1 B24 ((s.size+2)/3) (J9 s))):=by
 have e1:i64.wrap ((i64.wrap ((s.size:Int)+2)).tdiv 3)=(((s.size+2)/3:Nat):Int):=by
  rw[w64 (n:=(s.size:Int)+2) (by omega),Int.tdiv_eq_ediv_of_nonneg (by omega),w64 (by omega)];omega
 refine zbX s (by rw[e1];omega) (by rw[e1,U0];exact J0 _) ?_
 rw[e1,U0]
 have:=z9u (R:= .fresh (z46 (fun a b=>a= .sl 0 0 ((s.size+2)/3) 1∧b=j4 (Z1 B24 ((s.size+2)/3) (J9 s))))) rfl ⟨rfl,rfl⟩ s hs ⟨_,rfl,rfl,rfl⟩ _ 0 rfl (Nat.zero_le _)
 rw[List.take_zero,show val 256 []=0 from rfl,z1x]at this
 rw[show(((s.size+2)/3:Nat):Int).toNat=(s.size+2)/3 by omega,Nat.mul_one]
 exact this
theorem z3G{b:Nat}(hb:2≤b){n k:Nat}:(dig b n).length≤k↔n<b^k:=
 ⟨fun h=>Nat.lt_of_lt_of_le (J8 hb n) (Nat.pow_le_pow_right (by omega) h),fun h=>Q1 hb h⟩
theorem zeE(n:Nat):(dig B24 n).length=((dig 256 n).length+2)/3:=by
 have h: ∀k,(dig B24 n).length≤k↔(dig 256 n).length≤3*k:=by
  intro k
  rw[z3G (by decide),z3G (by decide),Nat.pow_mul]
 have h1:=(h (dig B24 n).length).1 (Nat.le_refl _)
 have h2:=(h (((dig 256 n).length+2)/3)).2 (by omega)
 rcases Nat.lt_or_ge (dig B24 n).length (((dig 256 n).length+2)/3)with h3|h3
 · omega
 · omega
theorem z09{b:Nat}(hb:2≤b)(n:Nat):Z1 b (dig b n).length n=dig b n:=by
 have h:=U8 (b:=b) (by omega) (dig b n).length n
 have h1:=z0h b (dig b n).length n
 rw[Nat.mod_eq_of_lt (J8 hb n)]at h1
 have h2: ∀(xs ys:List Nat),Dig b xs→Dig b ys→xs.length=ys.length→val b xs=val b ys→xs=ys:=by
  intro xs
  induction xs with
  |nil=>intro ys _ _ hl _;cases ys with|nil=>rfl|cons _ _=>simp at hl
  |cons x xs ih=>
   intro ys hx hy hl hv
   cases ys with
   |nil=>simp at hl
   |cons y ys=>
    simp only[val]at hv
    have hxb:=hx x (by simp)
    have hyb:=hy y (by simp)
    have e1:x=y:=by
     have := congrArg (· % b) hv
     simp only[Nat.add_mul_mod_self_left,Nat.mod_eq_of_lt hxb,Nat.mod_eq_of_lt hyb]at this
     exact this
    subst e1
    have e2:val b xs=val b ys:=Nat.eq_of_mul_eq_mul_left (by omega:0<b) (by omega)
    rw[ih ys (fun z hz=>hx z (by simp[hz])) (fun z hz=>hy z (by simp[hz])) (by simpa using hl) e2]
 exact h2 _ _ h (Y8 hb n) (j9 _ _ _) (by rw[h1,Q8 hb])
theorem Q2(n:Nat)(h:Sml n):FCall P 195 [X1 (bytesOf n)] (.sl 0 0 (dig B24 n).length 1) (j4 (dig B24 n)):=by
 have:=z8B (bytesOf n) (by have:=h.size;omega)
 rw[z0d,z0p,←zeE,z09 (by decide)]at this
 exact this
theorem z05(n:Nat)(h:Sml n):PCall P 195 [X1 (bytesOf n)] (z0r n):=by
 have:=(Q2 n h).pcall (by simp[j4])
 rw[List.drop_zero,Nat.mul_one,List.take_of_length_le (by simp[j4])]at this
 exact this
theorem zpc(n:Nat)(xs:List Nat)(o0:(0:Int)≤i64.wrap ((3:Int)*(n:Int))∧i64.wrap ((3:Int)*(n:Int))≤i64.wrap ((3:Int)*(n:Int))∧(1:Int)*i64.wrap ((3:Int)*(n:Int))≤140737488355328∧i64.wrap ((3:Int)*(n:Int))≤4611686018427387904∧1=1)(o1:CvL (List.replicate ((i64.wrap ((3:Int)*(n:Int))).toNat*1) (.cv (.lit (.int .u8 0))))){R:CV→Prop}(hR:Ok P 237 (loopHead P 237 0) ⟨J1 45 [(0,.cv (.lst n (j4 xs))),(3,.sl 0 0 (i64.wrap ((3:Int)*(n:Int))).toNat 1),(4,.cv (.lit (.int .i64 0)))],[some (List.replicate ((i64.wrap ((3:Int)*(n:Int))).toNat*1) (.cv (.lit (.int .u8 0))))]⟩ (.of R)):Y3 P 237 [.lst n (j4 xs)] R:=
 Z6 (keep:=[0,3,4]) (σ:=[0]) (.c o0 (.o 7 .stop .nil)) (by kernel_rfl) rfl hR (.cons o1 .nil)
theorem zjb(n m i:Nat)(xs bs:List Nat)(h1:(decide ((i:Int)<(m:Int)))=true)(o2:(0:Int)≤i64.wrap ((i:Int).tdiv 3)∧i64.wrap ((i:Int).tdiv 3)<(n:Int))(o3:(j4 xs)[(i64.wrap ((i:Int).tdiv 3)).toNat*1]?=some (.lit (.int .i64 (↑(xs.getD ((i64.wrap ((i:Int).tdiv 3)).toNat*1) 0):Int))))(o6:(0:Int)≤i64.wrap ((8:Int)*(i:Int).tmod 3))(o7:(0:Int)≤i64.wrap (i64.wrap ((m:Int)-1)-(i:Int))∧i64.wrap (i64.wrap ((m:Int)-1)-(i:Int))<(m:Int))(o8:0+(i64.wrap (i64.wrap ((m:Int)-1)-(i:Int))).toNat*1+1≤(own (u8s bs)).length)(o9:CvL (j6 (own (u8s bs)) (0+(i64.wrap (i64.wrap ((m:Int)-1)-(i:Int))).toNat*1) [.cv (.lit (.int .u8 (u8.wrap ((↑(xs.getD ((i64.wrap ((i:Int).tdiv 3)).toNat*1) 0):Int).fdiv ((2:Int)^min (i64.wrap ((8:Int)*(i:Int).tmod 3)).toNat 64)))))])){R:Goal}(hn:j7 R.n [0]=true)(hR:Ok P 237 (loopHead P 237 0) ⟨J1 45 [(0,.cv (.lst n (j4 xs))),(3,.sl 0 0 m 1),(4,.cv (.lit (.int .i64 (i64.wrap ((i:Int)+1)))))],[some (j6 (own (u8s bs)) (0+(i64.wrap (i64.wrap ((m:Int)-1)-(i:Int))).toNat*1) [.cv (.lit (.int .u8 (u8.wrap ((↑(xs.getD ((i64.wrap ((i:Int).tdiv 3)).toNat*1) 0):Int).fdiv ((2:Int)^min (i64.wrap ((8:Int)*(i:Int).tmod 3)).toNat 64)))))])]⟩ R):Ok P 237 (loopHead P 237 0) ⟨J1 45 [(0,.cv (.lst n (j4 xs))),(3,.sl 0 0 m 1),(4,.cv (.lit (.int .i64 (i:Int))))],[some (own (u8s bs))]⟩ R:=
 z07 (keep:=[0,3,4]) (σ:=[0]) (.b 5 h1 (.c (nz 3) (.c o2 (.l 16 o3 (.c (eqn 1) (.c (nz 3) (.c o6 (.c o7 (.c o8 (.o 27 .stop .nil)))))))))) (by kernel_rfl) rfl hn hR (.cons o9 .nil)
theorem ziH(n m i:Nat)(xs bs:List Nat)(h1:(decide ((i:Int)<(m:Int)))=false)(o1:CvL (own (u8s bs))){R:Goal}(hn:j7 R.n [0]=true)(hR:Ok P 237 (loopHead P 237 1) ⟨J1 45 [(3,.sl 0 0 m 1)],[some (own (u8s bs))]⟩ R):Ok P 237 (loopHead P 237 0) ⟨J1 45 [(0,.cv (.lst n (j4 xs))),(3,.sl 0 0 m 1),(4,.cv (.lit (.int .i64 (i:Int))))],[some (own (u8s bs))]⟩ R:=
 z07 (keep:=[3]) (σ:=[0]) (.b 5 h1 (.o 6 .stop .nil)) (by kernel_rfl) rfl hn hR (.cons o1 .nil)
theorem zmk(j m:Nat)(bs:List Nat)(h1:(decide ((m:Int)>0))=true)(h2:((↑(bs.getD (j+0) 0):Int)==0)=true)(o1:(0:Int)≤0∧(0:Int)<(m:Int))(o2:(own (u8s bs))[j+0]?=some (.cv (.lit (.int .u8 ↑(bs.getD (j+0) 0)))))(o5:(0:Int)≤1∧(1:Int)≤(m:Int)∧(m:Int)≤(m:Int)∧((1:Int)=0∨(1:Int)<(m:Int)))(o6:CvL (own (u8s bs))){R:Goal}(hn:j7 R.n [0]=true)(hR:Ok P 237 (loopHead P 237 1) ⟨J1 45 [(3,.sl 0 (j+1) ((m:Int)-1).toNat 1)],[some (own (u8s bs))]⟩ R):Ok P 237 (loopHead P 237 1) ⟨J1 45 [(3,.sl 0 j m 1)],[some (own (u8s bs))]⟩ R:=
 z07 (keep:=[3]) (σ:=[0]) (.b 4 h1 (.c o1 (.e 7 o2 (.c (eqn 1) (.b 10 h2 (.c o5 (.o 14 .stop .nil))))))) (by kernel_rfl) rfl hn hR (.cons o6 .nil)
theorem zmF(j m:Nat)(bs:List Nat)(h1:(decide ((m:Int)>0))=true)(h2:((↑(bs.getD (j+0) 0):Int)==0)=false)(o1:(0:Int)≤0∧(0:Int)<(m:Int))(o2:(own (u8s bs))[j+0]?=some (.cv (.lit (.int .u8 ↑(bs.getD (j+0) 0)))))(o5:List.take m (List.drop j (own (u8s bs)))=List.map (fun b=>z2D u8 (↑b.toNat:Int)) (List.map UInt8.ofNat (List.take m (List.drop j bs))))(o6:(z2d (List.take m (List.drop j bs))).size=m){R:Goal}(hR:R.c (.lit (.string (z2d (List.take m (List.drop j bs)))))):Ok P 237 (loopHead P 237 1) ⟨J1 45 [(3,.sl 0 j m 1)],[some (own (u8s bs))]⟩ R:=
 okT (.b 4 h1 (.c o1 (.e 7 o2 (.c (eqn 1) (.b 10 h2 (.c o5 (.c o6 (.o 12 (.r (.lit (.string (z2d (List.take m (List.drop j bs)))))) .nil)))))))) (by kernel_rfl) hR
theorem zk7(j m:Nat)(bs:List Nat)(h1:(decide ((m:Int)>0))=false)(o1:List.take m (List.drop j (own (u8s bs)))=List.map (fun b=>z2D u8 (↑b.toNat:Int)) (List.map UInt8.ofNat (List.take m (List.drop j bs))))(o2:(z2d (List.take m (List.drop j bs))).size=m){R:Goal}(hR:R.c (.lit (.string (z2d (List.take m (List.drop j bs)))))):Ok P 237 (loopHead P 237 1) ⟨J1 45 [(3,.sl 0 j m 1)],[some (own (u8s bs))]⟩ R:=
 okT (.b 4 h1 (.c o1 (.c o2 (.o 12 (.r (.lit (.string (z2d (List.take m (List.drop j bs)))))) .nil)))) (by kernel_rfl) hR
theorem z7l(V VA VB p d c c' x y B:Nat)(h1:V+c*p=VA+VB)(h2:d+B*c'=x+y+c):V+p*d+c'*(p*B)=VA+p*x+(VB+p*y):=by
 have h3:p*(d+B*c')=p*(x+y+c):=by rw[h2]
 have e1:c'*(p*B)=p*(B*c'):=by rw[Nat.mul_comm c',Nat.mul_assoc]
 have e2:c*p=p*c:=Nat.mul_comm _ _
 rw[e1]
 simp only[Nat.mul_add]at h3
 omega
theorem zgz {R : Goal} (hn : j7 R.n [0] = true) (xs ys : List Nat) (hle : xs.length ≤ ys.length) (hlen : ys.length < 2 ^ 40) (hx : Dig B32 xs) (hy : Dig B32 ys)
    (hR:R.c (z0c (val B32 ys+val B32 xs))):
    ∀(k i:Nat) (zs:List Nat) (c:Nat),ys.length-i=k→i≤ys.length→zs.length=ys.length+1→Dig B32 zs→c≤1→
     val B32 (zs.take i)+c*B32^i=val B32 (ys.take i)+val B32 (xs.take i)→
     Ok P 239 (loopHead P 239 0) ⟨J1 54 [(0,.cv (.lst ys.length (j8 ys))),(1,.cv (.lst xs.length (j8 xs))),(5,.sl 0 0 (ys.length+1) 1),(6,.cv (.lit (.int .u32 c))),
      (21,.cv (.lst ys.length (j8 ys))),(22,.cv (.lit (.int .i64 ys.length))),(23,.cv (.lit (.int .i64 i)))],[some (own (j8 zs))]⟩ R:=by
 intro k
 induction k with
 |zero=>
  intro i zs c hk hi hz hd hc hv
  have:i=ys.length:=by omega
  subst this
  have e1:(0:Nat)+(ys.length:Int).toNat*1=ys.length:=by omega
  have hset:j6 (own (j8 zs)) ys.length [MV.cv (CV.lit (.int .u32 (c:Int)))]=own (j8 (zs.set ys.length c)):=Q6 (by omega)
  have hl2:(zs.set ys.length c).length=ys.length+1:=by simp[hz]
  refine zmz _ _ _ _ _ _ _ _ (by simp) (by rw[e1,hl2]) (by rw[e1];exact hd.set (by simp only[B32];omega) _) (by rw[e1,hl2];omega) (by omega) (by rw[e1,J4,Q7,hz];omega) ?_ ?_
  · rw[e1,hset];exact z17 (by rw[Q7,hl2])
  · rw[e1]
    have h1:val 4294967296 (zs.set ys.length c)=val B32 ys+val B32 xs:=by
     rw[show(4294967296:Nat)=B32 from rfl]
     have:=z06 (b:=B32) (xs:=zs) (i:=ys.length) (d:=c) (by omega)
     rw[List.take_of_length_le (by omega),Nat.mul_comm]at this
     rw[this,hv,List.take_length,z0o hle]
    rw[h1];exact hR
 |succ k ih=>
  intro i zs c hk hi hz hd hc hv
  have hlt:i<ys.length:=by omega
  have e1:(i:Int).toNat*1=i:=by omega
  have e2:(0:Nat)+(i:Int).toNat*1=i:=by omega
  have e3:i64.wrap ((i:Int)+1)=((i+1:Nat):Int):=by rw[w64 (by omega)];omega
  have gy:=Y7 hlt
  have dy:=hy.get (by decide) i
  have dx:=hx.get (by decide) i
  have key : ∀ y' : Nat, y' = xs.getD i 0 → y' < B32 →
      val B32 ((zs.set i ((ys.getD i 0+y'+c)%B32)).take (i+1))+(ys.getD i 0+y'+c)/B32*B32^(i+1)=val B32 (ys.take (i+1))+val B32 (xs.take (i+1)):=by
   intro y' hy' _
   rw[z06 (by omega),Y0,Y0,←hy',Nat.pow_succ]
   exact z7l _ _ _ _ _ _ _ _ _ _ hv (Nat.mod_add_div _ _)
  have hcar: ∀y':Nat,y'<B32→(ys.getD i 0+y'+c)/B32≤1:=by intro y' h;simp only[B32]at*;omega
  have hdg: ∀s:Nat,s%B32<B32:=fun s=>Nat.mod_lt _ (by decide)
  by_cases hi2:i<xs.length
  · refine ziW _ _ _ _ _ _ _ _ (by simpa using hlt) (by simpa using hi2) (by rw[e1];exact dy) (by rw[e1];exact dx) hc (by omega) (by rw[e1];exact gy) (by omega) (by rw[e1];exact Y7 hi2) (by omega) (by rw[e2,J4,Q7];omega) ?_ hn ?_
    · rw[e2,e1,Q6 (by omega)];exact J0 _
    · rw[e2,e1,e3,Q6 (by omega)]
      exact ih (i+1) _ _ (by omega) (by omega) (by simpa using hz) (hd.set (hdg _) _) (hcar _ dx) (key _ rfl dx)
  · refine zlB _ _ _ _ _ _ _ _ (by simpa using hlt) (by simpa using hi2) (by rw[e1];exact dy) (by decide) hc (by omega) (by rw[e1];exact gy) (by omega) (by rw[e2,J4,Q7];omega) ?_ hn ?_
    · rw[e2,e1,Q6 (by omega)];exact J0 _
    · rw[e2,e1,e3,Q6 (by omega)]
      exact ih (i+1) _ _ (by omega) (by omega) (by simpa using hz) (hd.set (hdg _) _) (hcar _ (by decide)) (key 0 (z3C (by omega)).symm (by decide))
theorem z7f(a b:Nat)(ha:(dig B32 a).length<2^40)(hb:(dig B32 b).length<2^40):PCall P 239 [z0c a,z0c b] (z0c (a+b)):=by
 have main : ∀ x y : Nat, (dig B32 x).length ≤ (dig B32 y).length → (dig B32 y).length < 2 ^ 40 → ∀ R : CV → Prop, R (z0c (y + x)) →
     Ok P 239 (loopHead P 239 0) ⟨J1 54 [(0,.cv (z0c y)),(1,.cv (z0c x)),(5,.sl 0 0 ((dig B32 y).length+1) 1),(6,.cv (.lit (.int .u32 0))),
      (21,.cv (z0c y)),(22,.cv (.lit (.int .i64 (dig B32 y).length))),(23,.cv (.lit (.int .i64 0)))],[some (own (j8 (List.replicate ((dig B32 y).length+1) 0)))]⟩ (.of R):=by
  intro x y hxy hy R hR
  have:=zgz (R:= .of R) rfl (dig B32 x) (dig B32 y) hxy hy (Y8 (by decide) _) (Y8 (by decide) _) (by rw[Q8 (by decide),Q8 (by decide)];exact hR) _ 0
   (List.replicate ((dig B32 y).length+1) 0) 0 rfl (Nat.zero_le _) (by simp) (Dig.replicate (by decide) _) (by omega) (by simp[val])
  exact this
 have e: ∀n:Nat,n<2^40→i64.wrap ((n:Int)+1)=((n+1:Nat):Int):=by intro n hn;rw[w64 (by omega)];omega
 by_cases h:(dig B32 a).length<(dig B32 b).length
 · refine zkK _ _ _ _ (by simpa using h) (by rw[e _ hb];omega) (by rw[U4];exact J0 _) ?_
   rw[U4,e _ hb,show((((dig B32 b).length+1:Nat):Int)).toNat=(dig B32 b).length+1 by omega,Nat.mul_one]
   exact main a b (by omega) hb _ (by rw[Nat.add_comm])
 · refine zlu _ _ _ _ (by simpa using h) (by rw[e _ ha];omega) (by rw[U4];exact J0 _) ?_
   rw[U4,e _ ha,show((((dig B32 a).length+1:Nat):Int)).toNat=(dig B32 a).length+1 by omega,Nat.mul_one]
   exact main b a (by omega) ha _ rfl
end Go.Fw
