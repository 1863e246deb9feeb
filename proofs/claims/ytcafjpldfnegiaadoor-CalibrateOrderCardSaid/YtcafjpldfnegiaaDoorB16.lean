/- A part of the proof that the law returns true for every input: an executor for the model's code, and what functions of the program compute. -/
import Derived.Test.YtcafjpldfnegiaaDoorB11
import Derived.Test.YtcafjpldfnegiaaDoorB15
import Derived.IntWalk
import Derived.KernelRfl
import Derived.Laws.Strings
open Go IntKind
namespace Go.Fw
def val(b:Nat):List Nat→Nat
 | []=>0
 |x::xs=>x+b*val b xs
def z9R(b:Nat):Nat→Nat→List Nat
 |0,_=>[]
 |f+1,n=>if n=0 then []else n%b::z9R b f (n/b)
def dig(b n:Nat):List Nat:=z9R b n n
def Dig(b:Nat)(xs:List Nat):Prop:= ∀x∈xs,x<b
theorem z62{b:Nat}(hb:2≤b): ∀(f g n:Nat),n≤f→n≤g→z9R b f n=z9R b g n
 |0,0,n,_,_=>rfl
 | 0, g + 1, n, h, _ => by have : n = 0 := by omega
                           subst this;simp[z9R]
 | f + 1, 0, n, _, h => by have : n = 0 := by omega
                           subst this;simp[z9R]
 |f+1,g+1,n,h1,h2=>by
  simp only[z9R]
  split
  · rfl
  · rename_i hn
    have:n/b<n:=Nat.div_lt_self (by omega) (by omega)
    rw[z62 hb f g (n/b) (by omega) (by omega)]
theorem z1y(b:Nat):dig b 0=[]:=rfl
theorem z1H{b n:Nat}(hb:2≤b)(hn:n≠0):dig b n=n%b::dig b (n/b):=by
 unfold dig
 cases n with
 |zero=>omega
 |succ m=>
  have:(m+1)/b<m+1:=Nat.div_lt_self (by omega) (by omega)
  rw[show z9R b (m+1) (m+1)=(m+1)%b::z9R b m ((m+1)/b) by simp[z9R],z62 hb m _ _ (by omega) (Nat.le_refl _)]
theorem Z9{b:Nat}(hb:2≤b)(n:Nat):val b (dig b n)=n:=by
 induction n using Nat.strongRecOn with
 |_ n ih=>
  by_cases hn:n=0
  · subst hn;rfl
  · rw[z1H hb hn,val,ih _ (Nat.div_lt_self (by omega) (by omega))]
    exact Nat.mod_add_div n b
theorem V7{b:Nat}(hb:2≤b)(n:Nat):Dig b (dig b n):=by
 induction n using Nat.strongRecOn with
 |_ n ih=>
  by_cases hn:n=0
  · subst hn;intro x hx;simp[z1y]at hx
  · rw[z1H hb hn]
    intro x hx
    simp only[List.mem_cons]at hx
    rcases hx with rfl|hx
    · exact Nat.mod_lt _ (by omega)
    · exact ih _ (Nat.div_lt_self (by omega) (by omega)) x hx
def tz:List Nat→List Nat
 | []=>[]
 |x::xs=>match tz xs with
  | []=>if x=0 then []else [x]
  |y::ys=>x::y::ys
theorem z1K(x:Nat)(xs:List Nat):tz (x::xs)=if tz xs=[]then(if x=0 then []else [x])else x::tz xs:=by
 simp only[tz]
 split
 · rename_i h;simp[h]
 · rename_i y ys h;simp[h]
theorem zbx{b:Nat}(hb:2≤b)(n:Nat):tz (dig b n)=dig b n:=by
 induction n using Nat.strongRecOn with
 |_ n ih=>
  by_cases hn:n=0
  · subst hn;rfl
  · have h1:=ih _ (Nat.div_lt_self (by omega:0<n) (by omega:1<b))
    rw[z1H hb hn,z1K,h1]
    split
    · rename_i h
      have h2:=Z9 hb (n/b)
      rw[h]at h2
      simp only[val]at h2
      have h3:=Nat.mod_add_div n b
      rw[←h2]at h3
      rw[if_neg (by omega),h]
    · rfl
theorem z1Y{b:Nat}(hb:2≤b): ∀xs,Dig b xs→tz xs=dig b (val b xs)
 | [],_=>rfl
 |x::xs,h=>by
  have hx:x<b:=h x (by simp)
  have ih:=z1Y hb xs (fun y hy=>h y (by simp[hy]))
  rw[z1K,ih]
  simp only[val]
  by_cases hv:val b xs=0
  · rw[hv,z1y,if_pos rfl,Nat.mul_zero,Nat.add_zero]
    split
    · rename_i h0;rw[h0];rfl
    · rename_i h0
      rw[z1H hb h0,Nat.mod_eq_of_lt hx,Nat.div_eq_of_lt hx];rfl
  · have h1:dig b (val b xs)≠[]:=by rw[z1H hb hv];simp
    rw[if_neg h1]
    have h2:x+b*val b xs≠0:=by
     have:0<b*val b xs:=Nat.mul_pos (by omega) (by omega)
     omega
    rw[z1H hb h2]
    have h3:(x+b*val b xs)%b=x:=by rw[Nat.add_mul_mod_self_left,Nat.mod_eq_of_lt hx]
    have h4:(x+b*val b xs)/b=val b xs:=by rw[Nat.add_mul_div_left _ _ (by omega),Nat.div_eq_of_lt hx,Nat.zero_add]
    rw[h3,h4]
theorem Y3: ∀xs,tz (xs++[0])=tz xs
 | []=>rfl
 |x::xs=>by rw[List.cons_append,z1K,z1K,Y3 xs]
theorem z1m{x:Nat}(hx:x≠0): ∀xs,tz (xs++[x])=xs++[x]
 | []=>by simp[tz,hx]
 |y::xs=>by rw[List.cons_append,z1K,z1m hx xs];simp
theorem z2J(b:Nat): ∀xs ys,val b (xs++ys)=val b xs+b^xs.length*val b ys
 | [],ys=>by simp[val]
 |x::xs,ys=>by
  simp only[List.cons_append,val,z2J b xs ys,List.length_cons,Nat.pow_succ]
  rw[Nat.mul_add,←Nat.add_assoc,←Nat.mul_assoc,Nat.mul_comm b (b^xs.length)]
theorem z0u{b:Nat}(hb:0<b): ∀xs,Dig b xs→val b xs<b^xs.length
 | [],_=>by simp[val]
 |x::xs,h=>by
  have hx:x<b:=h x (by simp)
  have ih:=z0u hb xs (fun y hy=>h y (by simp[hy]))
  simp only[val,List.length_cons,Nat.pow_succ]
  calc x+b*val b xs<b+b*val b xs:=by omega
   _=b*(val b xs+1):=by rw[Nat.mul_add,Nat.mul_one,Nat.add_comm]
   _≤b*b^xs.length:=Nat.mul_le_mul_left _ ih
   _=b^xs.length*b:=Nat.mul_comm _ _
theorem Z0{b:Nat}(hb:2≤b){n k:Nat}(h:n<b^k):(dig b n).length≤k:=by
 induction k generalizing n with
 | zero => have : n = 0 := by simpa using h
           subst this;simp[z1y]
 |succ k ih=>
  by_cases hn:n=0
  · subst hn;simp[z1y]
  · rw[z1H hb hn,List.length_cons]
    have:n/b<b^k:=by
     rw[Nat.div_lt_iff_lt_mul (by omega)]
     rw[Nat.pow_succ]at h;exact h
    have:=ih this
    omega
theorem J7{b:Nat}(hb:2≤b)(n:Nat):n<b^(dig b n).length:=by
 have:=z0u (by omega:0<b) (dig b n) (V7 hb n)
 rw[Z9 hb]at this;exact this
theorem z2x{b:Nat}(hb:2≤b){n:Nat}:dig b n=[]↔n=0:=by
 constructor
 · intro h
   have:=Z9 hb n
   rw[h]at this
   exact this.symm
 · rintro rfl;rfl
theorem Y1{b:Nat}(hb:2≤b){n:Nat}:(dig b n).length=0↔n=0:=by
 rw[List.length_eq_zero_iff,z2x hb]
theorem Dig.get{b:Nat}{xs:List Nat}(h:Dig b xs)(hb:0<b)(i:Nat):xs.getD i 0<b:=by
 rw[List.getD_eq_getElem?_getD]
 cases hi:xs[i]? with
 |none=>simpa using hb
 |some x=>simpa using h x (List.mem_of_getElem? hi)
theorem Dig.take{b:Nat}{xs:List Nat}(h:Dig b xs)(n:Nat):Dig b (xs.take n):=fun x hx=>h x (List.mem_of_mem_take hx)
theorem Dig.drop{b:Nat}{xs:List Nat}(h:Dig b xs)(n:Nat):Dig b (xs.drop n):=fun x hx=>h x (List.mem_of_mem_drop hx)
theorem Dig.append{b:Nat}{xs ys:List Nat}(h:Dig b xs)(k:Dig b ys):Dig b (xs++ys):=by
 intro x hx
 rcases List.mem_append.1 hx with hx|hx
 · exact h x hx
 · exact k x hx
theorem Dig.replicate{b:Nat}(hb:0<b)(n:Nat):Dig b (List.replicate n 0):=by
 intro x hx;rw[List.mem_replicate]at hx;rw[hx.2];exact hb
theorem Dig.set{b:Nat}{xs:List Nat}(h:Dig b xs){d:Nat}(hd:d<b)(i:Nat):Dig b (xs.set i d):=by
 intro x hx
 rcases List.mem_or_eq_of_mem_set hx with hx|rfl
 · exact h x hx
 · exact hd
theorem z1C{xs:List Nat}{i:Nat}(h:i<xs.length):xs.take (i+1)=xs.take i++[xs.getD i 0]:=by
 rw[List.take_succ_eq_append_getElem h]
 simp[List.getD_eq_getElem?_getD,List.getElem?_eq_getElem h]
theorem Y0{b:Nat}{xs:List Nat}{i:Nat}(h:i<xs.length):val b (xs.take (i+1))=val b (xs.take i)+b^i*xs.getD i 0:=by
 rw[z1C h,z2J]
 simp[val,List.length_take,Nat.min_eq_left (Nat.le_of_lt h)]
theorem z0s{b:Nat}{xs:List Nat}{i:Nat}(h:i<xs.length):val b (xs.drop i)=xs.getD i 0+b*val b (xs.drop (i+1)):=by
 rw[List.drop_eq_getElem_cons h,val]
 simp[List.getD_eq_getElem?_getD,List.getElem?_eq_getElem h]
theorem z0l{b:Nat}(xs:List Nat)(i:Nat)(h:i≤xs.length):val b xs=val b (xs.take i)+b^i*val b (xs.drop i):=by
 conv=>lhs;rw[←List.take_append_drop i xs]
 rw[z2J,List.length_take,Nat.min_eq_left h]
def Q7(b:Nat):Nat→Nat→List Nat
 |0,_=>[]
 |m+1,n=>n%b::Q7 b m (n/b)
theorem j5(b:Nat): ∀m n,(Q7 b m n).length=m
 |0,_=>rfl
 |m+1,n=>by simp[Q7,j5 b m]
theorem z0p{b:Nat}(hb:0<b): ∀m n,Dig b (Q7 b m n)
 |0,_=>by intro x hx;simp[Q7]at hx
 |m+1,n=>by
  intro x hx
  simp only[Q7,List.mem_cons]at hx
  rcases hx with rfl|hx
  · exact Nat.mod_lt _ hb
  · exact z0p hb m _ x hx
theorem z0w(b:Nat): ∀m n,val b (Q7 b m n)=n%b^m
 |0,n=>by simp[Q7,val,Nat.mod_one]
 |m+1,n=>by
  rw[Q7,val,z0w b m,Nat.pow_succ,Nat.mul_comm (b^m) b,Nat.mod_mul]
theorem z19(b:Nat): ∀m,Q7 b m 0=List.replicate m 0
 |0=>rfl
 |m+1=>by simp[Q7,z19 b m,List.replicate_succ]
theorem X0(b:Nat): ∀m n j,j<m→(Q7 b m n).getD j 0=n/b^j%b
 |0,_,_,h=>by omega
 |m+1,n,0,_=>by simp[Q7]
 |m+1,n,j+1,h=>by
  have:=X0 b m (n/b) j (by omega)
  simp only[Q7,List.getD_cons_succ]
  rw[this,Nat.div_div_eq_div_mul,Nat.pow_succ,Nat.mul_comm b]
theorem z0Y{b:Nat}(hb:0<b): ∀m n j d,j<m→n/b^j%b+d<b→(Q7 b m n).set j (n/b^j%b+d)=Q7 b m (n+d*b^j)
 |0,_,_,_,h,_=>by omega
 |m+1,n,0,d,_,h=>by
  simp only[Nat.pow_zero,Nat.div_one,Nat.mul_one]at h ⊢
  simp only[Q7,List.set_cons_zero]
  have h1:(n+d)%b=n%b+d:=by
   have:=Nat.mod_add_div n b
   conv=>lhs;rw[←this,show n%b+b*(n/b)+d=(n%b+d)+b*(n/b) by omega,Nat.add_mul_mod_self_left,Nat.mod_eq_of_lt h]
  have h2:(n+d)/b=n/b:=by
   have:=Nat.mod_add_div n b
   conv=>lhs;rw[←this,show n%b+b*(n/b)+d=(n%b+d)+b*(n/b) by omega,Nat.add_mul_div_left _ _ hb,Nat.div_eq_of_lt h,Nat.zero_add]
  rw[h1,h2]
 |m+1,n,j+1,d,hj,h=>by
  have e:n/b^(j+1)=n/b/b^j:=by rw[Nat.div_div_eq_div_mul,Nat.pow_succ,Nat.mul_comm b]
  rw[e]at h ⊢
  simp only[Q7,List.set_cons_succ]
  rw[z0Y hb m (n/b) j d (by omega) h]
  have h1:(n+d*b^(j+1))%b=n%b:=by rw[Nat.pow_succ,←Nat.mul_assoc,Nat.add_mul_mod_self_right]
  have h2:(n+d*b^(j+1))/b=n/b+d*b^j:=by rw[Nat.pow_succ,←Nat.mul_assoc,Nat.add_mul_div_right _ _ hb]
  rw[h1,h2]
theorem z5e{xs:List Nat}{i d:Nat}(h:i<xs.length):(xs.set i d).getD i 0=d:=by simp[List.getD_eq_getElem?_getD,h]
theorem z1U{xs:List Nat}{i j d:Nat}(h:i≠j):(xs.set i d).getD j 0=xs.getD j 0:=by simp[List.getD_eq_getElem?_getD,h]
theorem z1h{b:Nat}{xs:List Nat}{i d:Nat}(h:i<xs.length):val b ((xs.set i d).take (i+1))=val b (xs.take i)+b^i*d:=by
 rw[Y0 (by simpa using h),z5e h,List.take_set_of_le (Nat.le_refl _)]
theorem z04{b:Nat}{xs:List Nat}{i:Nat}(h:xs.length≤i):val b (xs.take i)=val b xs:=by rw[List.take_of_length_le h]
theorem z5a{xs:List Nat}{i:Nat}(h:xs.length≤i):xs.getD i 0=0:=by simp[List.getD_eq_getElem?_getD,h]
theorem z01{b:Nat}(xs:List Nat)(i:Nat):val b (xs.take (i+1))=val b (xs.take i)+b^i*xs.getD i 0:=by
 by_cases h:i<xs.length
 · exact Y0 h
 · rw[z04 (by omega),z04 (by omega),z5a (by omega)];simp
theorem z3Q{b:Nat}(xs:List Nat)(i:Nat):val b (xs.drop i)=xs.getD i 0+b*val b (xs.drop (i+1)):=by
 by_cases h:i<xs.length
 · exact z0s h
 · rw[List.drop_eq_nil_of_le (by omega),List.drop_eq_nil_of_le (by omega),z5a (by omega)];simp[val]
theorem z5O{b:Nat}{xs:List Nat}{i d:Nat}(h:i<xs.length):val b ((xs.set i d).drop i)=d+b*val b (xs.drop (i+1)):=by
 rw[z0s (by simpa using h),z5e h,List.drop_set_of_lt (by omega)]
abbrev B32:Nat:=4294967296
abbrev B24:Nat:=16777216
def X5(n:Nat):CV:= .lst (dig B32 n).length (j0 (dig B32 n))
theorem z9O{P:Program}{f:FuncId}{args:List CV}{v:CV}(h:W9 P f args (fun x=>x=v)):PCall P f args v:=h
theorem w64{n:Int}(h: -9223372036854775808≤n∧n≤9223372036854775807):i64.wrap n=n:=IntWalk.i64_in n h
theorem zcV{xs:List Nat}(h:Dig B32 xs):CV.lst (tz xs).length (j0 (tz xs))=X5 (val B32 xs):=by rw[X5,z1Y (by decide) xs h]
theorem W4{xs:List Nat}(h:xs≠[]):xs=xs.take (xs.length-1)++[xs.getD (xs.length-1) 0]:=by
 have h1:xs.length-1<xs.length:=by have:=List.length_pos_iff.2 h;omega
 conv=>lhs;rw[←List.take_length (l:=xs),show xs.length=xs.length-1+1 by omega]
 exact z1C h1
set_option maxRecDepth 100000
theorem zbl(x y z:Int):PCall P 66 [.lit (.int .u32 x),.lit (.int .u32 y),.lit (.int .u32 z)] (.tup [.lit (.int .u32 (u32.wrap (u64.wrap (u64.wrap (u64.wrap x+u64.wrap y)+u64.wrap z)))),.lit (.int .u32 (u32.wrap ((u64.wrap (u64.wrap (u64.wrap x+u64.wrap y)+u64.wrap z)).fdiv 4294967296)))]):=
 j3 (.c (nn 32) .nil) (by kernel_rfl)
theorem zaC(x y z:Int):PCall P 67 [.lit (.int .u32 x),.lit (.int .u32 y),.lit (.int .u32 z)] (.tup [.lit (.int .u32 (u32.wrap (u32.wrap (x-y)-z))),.lit (.int .u32 ((Y2 BinOp.or u32 (Y2 BinOp.and u32 (Y2 BinOp.xor u32 (4294967295:Int) x) y) (Y2 BinOp.and u32 (Y2 BinOp.xor u32 (4294967295:Int) (Y2 BinOp.xor u32 x y)) (u32.wrap (u32.wrap (x-y)-z)))).fdiv 2147483648))]):=
 j3 (.c (nn 31) .nil) (by kernel_rfl)
theorem zaT(x y z:Int)(hz:(z != 0)=true)(hx:decide (z≤x)=false)(o3 o4:u64.wrap z≠0):PCall P 89 [.lit (.int .u32 x),.lit (.int .u32 y),.lit (.int .u32 z)] (.tup [.lit (.int .u32 (u32.wrap (u64.wrap ((Y2 BinOp.or u64 (u64.wrap (u64.wrap x*4294967296)) (u64.wrap y)).tdiv (u64.wrap z))))),.lit (.int .u32 (u32.wrap ((Y2 BinOp.or u64 (u64.wrap (u64.wrap x*4294967296)) (u64.wrap y)).tmod (u64.wrap z))))]):=
 j3 (.b 4 hz (.b 9 hx (.c (nn 32) (.c o3 (.c o4 .nil))))) (by kernel_rfl)
theorem zbc(x y:Int):PCall P 77 [.lit (.int .u32 x),.lit (.int .u32 y)] (.tup [.lit (.int .u32 (u32.wrap ((u64.wrap (u64.wrap x*u64.wrap y)).fdiv 4294967296))),.lit (.int .u32 (u32.wrap (u64.wrap (u64.wrap x*u64.wrap y))))]):=
 j3 (.c (nn 32) .nil) (by kernel_rfl)
abbrev z2v(n:Nat):CV:= .lit (.int .u32 (n:Int))
abbrev J1(n:Int):CV:= .lit (.int .i64 n)
theorem z3D{k k':IntKind}{a a' b b':Int}(h:a=a')(h':b=b'):CV.tup [.lit (.int k a),.lit (.int k' b)]= .tup [.lit (.int k a'),.lit (.int k' b')]:=by rw[h,h']
theorem z4d{k:IntKind}{a a':Int}(h:a=a'):CV.lit (.int k a)= .lit (.int k a'):=by rw[h]
theorem z5o(n:Int):u32.wrap n=n%4294967296:=IntKind.wrap_u32 n
theorem z12(n:Int):u64.wrap n=n%18446744073709551616:=IntKind.wrap_u64 n
theorem wr8(n:Int):u8.wrap n=n%256:=IntKind.wrap_u8 n
theorem fdp(n:Int){d:Int}(h:0≤d):n.fdiv d=n/d:=Int.fdiv_eq_ediv_of_nonneg n h
theorem z8B(k:Nat)(a:Nat):BitVec.ofInt k (a:Int)=BitVec.ofNat k a:=by
 apply BitVec.eq_of_toNat_eq
 simp
theorem z2t (op : BinOp) (k : IntKind) (hk : k.signed = false) (a b : Nat) (ha : a < 2 ^ k.bits) (hb : b < 2 ^ k.bits) (hop : op = .and ∨ op = .or ∨ op = .xor) :
    Y2 op k a b=((match op with| .and=>a&&&b| .or=>a|||b|_=>a^^^b:Nat):Int):=by
 have hw: ∀n:Nat,n<2^k.bits→k.wrap (n:Int)=n:=by
  intro n hn
  unfold IntKind.wrap
  simp only[hk,Bool.false_and,Bool.false_eq_true,if_false]
  norm_cast
  rw[Nat.mod_eq_of_lt hn]
 unfold Y2
 simp only[z8B]
 rcases hop with rfl|rfl|rfl
 · dsimp only
   rw[BitVec.toNat_and,BitVec.toNat_ofNat,BitVec.toNat_ofNat,Nat.mod_eq_of_lt ha,Nat.mod_eq_of_lt hb]
   exact hw _ (Nat.and_lt_two_pow _ hb)
 · dsimp only
   rw[BitVec.toNat_or,BitVec.toNat_ofNat,BitVec.toNat_ofNat,Nat.mod_eq_of_lt ha,Nat.mod_eq_of_lt hb]
   exact hw _ (Nat.or_lt_two_pow ha hb)
 · dsimp only
   rw[BitVec.toNat_xor,BitVec.toNat_ofNat,BitVec.toNat_ofNat,Nat.mod_eq_of_lt ha,Nat.mod_eq_of_lt hb]
   exact hw _ (Nat.xor_lt_two_pow ha hb)
theorem z9I{a b:Nat}(ha:a<4294967296)(hb:b<4294967296):Y2 .or .u32 (a:Int) (b:Int)=((a|||b:Nat):Int):=z2t .or .u32 rfl a b ha hb (by simp)
theorem z8h{a b:Nat}(ha:a<4294967296)(hb:b<4294967296):Y2 .and .u32 (a:Int) (b:Int)=((a&&&b:Nat):Int):=z2t .and .u32 rfl a b ha hb (by simp)
theorem z6g{a b:Nat}(ha:a<4294967296)(hb:b<4294967296):Y2 .xor .u32 (a:Int) (b:Int)=((a^^^b:Nat):Int):=z2t .xor .u32 rfl a b ha hb (by simp)
theorem z5X{a b:Nat}(ha:a<18446744073709551616)(hb:b<18446744073709551616):Y2 .or .u64 (a:Int) (b:Int)=((a|||b:Nat):Int):=z2t .or .u64 rfl a b ha hb (by simp)
theorem z0R{a b:Nat}(i:Nat)(hb:b<2^i):a*2^i|||b=a*2^i+b:=by
 rw[←Nat.shiftLeft_eq,Nat.shiftLeft_add_eq_or_of_lt hb]
theorem z0f(x y c:Nat)(hx:x<B32)(hy:y<B32)(hc:c≤1):PCall P 66 [z2v x,z2v y,z2v c] (.tup [z2v ((x+y+c)%B32),z2v ((x+y+c)/B32)]):=by
 refine(zbl x y c).eq ?_
 simp only[z5o,z12,fdp _ (by decide:(0:Int)≤4294967296),B32]at*
 exact z3D (by omega) (by omega)
theorem z7w(x y:Nat)(hx:x<B32)(hy:y<B32):PCall P 77 [z2v x,z2v y] (.tup [z2v (x*y/B32),z2v (x*y%B32)]):=by
 refine(zbc x y).eq ?_
 have h:x*y≤4294967295*4294967295:=Nat.mul_le_mul (by simp only[B32]at hx;omega) (by simp only[B32]at hy;omega)
 simp only[z5o,z12,fdp _ (by decide:(0:Int)≤4294967296),B32]at*
 have h1:(x:Int)%18446744073709551616*((y:Int)%18446744073709551616)=((x*y:Nat):Int):=by
  rw[Int.emod_eq_of_lt (by omega) (by omega),Int.emod_eq_of_lt (by omega) (by omega)];simp
 rw[h1]
 exact z3D (by omega) (by omega)
theorem z7K(x y z:Nat)(hx:x<z)(hy:y<B32)(hz:z<B32):PCall P 89 [z2v x,z2v y,z2v z] (.tup [z2v ((x*B32+y)/z),z2v ((x*B32+y)%z)]):=by
 have h0:0<z:=by omega
 have hzw:u64.wrap (z:Int)=z:=by rw[z12];simp only[B32]at hz;omega
 have hne:(z:Int)≠0:=by omega
 refine(zaT x y z (by simpa using hne) (by simp;omega) (by rw[hzw];exact hne) (by rw[hzw];exact hne)).eq ?_
 rw[hzw]
 simp only[B32]at*
 have h1:u64.wrap (u64.wrap (x:Int)*4294967296)=((x*2^32:Nat):Int):=by rw[z12,z12];omega
 have h2:u64.wrap (y:Int)=(y:Nat):=by rw[z12];omega
 rw[h1,h2,z5X (by omega) (by omega),z0R 32 (by omega),show(2:Nat)^32=4294967296 by decide,z5o,z12,z5o,Int.tdiv_eq_ediv_of_nonneg (by omega),Int.tmod_eq_emod_of_nonneg (by omega)]
 have h3:(x*4294967296+y)/z<4294967296:=by
  rw[Nat.div_lt_iff_lt_mul h0]
  have:(x+1)*4294967296≤z*4294967296:=Nat.mul_le_mul_right _ hx
  rw[Nat.mul_comm 4294967296 z];omega
 have h4:(x*4294967296+y)%z<4294967296:=by have:=Nat.mod_lt (x*4294967296+y) h0;omega
 rw[show((x*4294967296+y:Nat):Int)/(z:Int)=(((x*4294967296+y)/z:Nat):Int)from(Int.natCast_ediv _ _).symm,
  show((x*4294967296+y:Nat):Int)%(z:Int)=(((x*4294967296+y)%z:Nat):Int)from(Int.natCast_emod _ _).symm]
 generalize (x*4294967296+y)/z=q at*
 generalize (x*4294967296+y)%z=r at*
 exact z3D (by omega) (by omega)
theorem z2K(x y c:Nat)(hx:x<B32)(hy:y<B32)(hc:c≤1):PCall P 67 [z2v x,z2v y,z2v c] (.tup [z2v ((x+2*B32-y-c)%B32),z2v (if x<y+c then 1 else 0)]):=by
 refine(zaC x y c).eq ?_
 simp only[B32]at*
 have hd:u32.wrap (u32.wrap ((x:Int)-y)-c)=((x+2*4294967296-y-c)%4294967296:Nat):=by rw[z5o,z5o];omega
 rw[hd]
 have hd':(x+2*4294967296-y-c)%4294967296<4294967296:=Nat.mod_lt _ (by decide)
 generalize hdd:(x+2*4294967296-y-c)%4294967296=d at*
 have hm:(4294967295:Int)=((4294967295:Nat):Int):=rfl
 have hxy:x^^^y<4294967296:=Nat.xor_lt_two_pow (n:=32) hx hy
 have hnx:4294967295^^^x<4294967296:=Nat.xor_lt_two_pow (n:=32) (by decide) hx
 have hnxy:4294967295^^^(x^^^y)<4294967296:=Nat.xor_lt_two_pow (n:=32) (by decide) hxy
 have ha1:(4294967295^^^x)&&&y<4294967296:=Nat.and_lt_two_pow (n:=32) _ hy
 have ha2:(4294967295^^^(x^^^y))&&&d<4294967296:=Nat.and_lt_two_pow (n:=32) _ hd'
 rw[hm,z6g (by decide) hx,z8h hnx hy,z6g hx hy,z6g (by decide) hxy,z8h hnxy hd',z9I ha1 ha2,fdp _ (by decide),show(2147483648:Int)=((2147483648:Nat):Int)from rfl,←Int.natCast_ediv]
 have key:((4294967295^^^x)&&&y|||(4294967295^^^(x^^^y))&&&d)/2147483648=if x<y+c then 1 else 0:=by
  rw[show(2147483648:Nat)=2^31 from rfl,←Nat.shiftRight_eq_div_pow]
  simp only[Nat.shiftRight_or_distrib,Nat.shiftRight_and_distrib,Nat.shiftRight_xor_distrib]
  rw[show(4294967295:Nat)>>>31=1 from rfl]
  simp only[Nat.shiftRight_eq_div_pow]
  rw[show(2:Nat)^31=2147483648 from rfl]
  have e1:x/2147483648=0∨x/2147483648=1:=by omega
  have e2:y/2147483648=0∨y/2147483648=1:=by omega
  have e3:d/2147483648=0∨d/2147483648=1:=by omega
  rcases e1 with e1|e1<;>rcases e2 with e2|e2<;>rcases e3 with e3|e3<;>rw[e1,e2,e3]
  all_goals first
   |(rw[if_pos (by omega)];rfl)
   |(rw[if_neg (by omega)];rfl)
 rw[key]
def bor(x y c:Int):Int:=if x<y+c then 1 else 0
theorem z8S(x y c:Int)(hx:0≤x∧x<4294967296)(hy:0≤y∧y<4294967296)(hc:0≤c∧c≤1):PCall P 67 [.lit (.int .u32 x),.lit (.int .u32 y),.lit (.int .u32 c)] (.tup [.lit (.int .u32 ((x-y-c)%4294967296)),.lit (.int .u32 (bor x y c))]):=by
 have h:=z2K x.toNat y.toNat c.toNat (by simp only[B32];omega) (by simp only[B32];omega) (by omega)
 obtain⟨x,rfl⟩: ∃n:Nat,x=n:=⟨x.toNat,by omega⟩
 obtain⟨y,rfl⟩: ∃n:Nat,y=n:=⟨y.toNat,by omega⟩
 obtain⟨c,rfl⟩: ∃n:Nat,c=n:=⟨c.toNat,by omega⟩
 simp only[Int.toNat_natCast]at h
 refine h.eq (z3D ?_ ?_)
 · simp only[B32];omega
 · unfold bor
   split<;>split<;>first|rfl|omega
theorem zfg(x y c:Int)(hx:0≤x∧x<4294967296)(hy:0≤y∧y<4294967296)(hc:0≤c∧c≤1):PCall P 66 [.lit (.int .u32 x),.lit (.int .u32 y),.lit (.int .u32 c)] (.tup [.lit (.int .u32 ((x+y+c)%4294967296)),.lit (.int .u32 ((x+y+c)/4294967296))]):=by
 have h:=z0f x.toNat y.toNat c.toNat (by simp only[B32];omega) (by simp only[B32];omega) (by omega)
 obtain⟨x,rfl⟩: ∃n:Nat,x=n:=⟨x.toNat,by omega⟩
 obtain⟨y,rfl⟩: ∃n:Nat,y=n:=⟨y.toNat,by omega⟩
 obtain⟨c,rfl⟩: ∃n:Nat,c=n:=⟨c.toNat,by omega⟩
 simp only[Int.toNat_natCast]at h
 refine h.eq (z3D ?_ ?_)
 · simp only[B32];omega
 · simp only[B32];omega
theorem zaB(n:Nat)(xs:List Nat){R:CV→Prop}(hR:Ok P 62 (loopHead P 62 0) ⟨J6 21 [(0,.cv (.lst n (j0 xs)))],[]⟩ (.of R)):W9 P 62 [.lst n (j0 xs)] R:=
 W7 (keep:=[0]) (σ:=[]) (.o 1 .stop .nil) (by kernel_rfl) rfl hR .nil
theorem zab(n:Nat)(xs:List Nat)(h1:decide ((n:Int)>0)=true)(h2:((↑(xs.getD ((i64.wrap ((n:Int)-1)).toNat*1) 0):Int)==0)=true)(o1:(0:Int)≤i64.wrap ((n:Int)-1)∧i64.wrap ((n:Int)-1)<(n:Int))(o2:(j0 xs)[(i64.wrap ((n:Int)-1)).toNat*1]?=some (.lit (.int .u32 (↑(xs.getD ((i64.wrap ((n:Int)-1)).toNat*1) 0):Int))))(o5:(0:Int)≤0∧(0:Int)≤i64.wrap ((n:Int)-1)∧i64.wrap ((n:Int)-1)≤(n:Int))(o6:(j0 xs).length=n*1){R:Goal}(hn:j7 R.n []=true)(hR:Ok P 62 (loopHead P 62 0) ⟨J6 21 [(0,.cv (.lst (i64.wrap ((n:Int)-1)-0).toNat (List.take ((i64.wrap ((n:Int)-1)-0).toNat*1) (List.drop 0 (j0 xs)))))],[]⟩ R):Ok P 62 (loopHead P 62 0) ⟨.cv (.lst n (j0 xs))::z7a 20,[]⟩ R:=
 z39 (keep:=[0]) (σ:=[]) (.b 4 h1 (.c o1 (.l 10 o2 (.c (eqn 1) (.b 13 h2 (.c o5 (.c o6 (.o 20 .stop .nil)))))))) (by kernel_rfl) rfl hn hR .nil
theorem zaA(n:Nat)(xs:List Nat)(h1:decide ((n:Int)>0)=true)(h2:((↑(xs.getD ((i64.wrap ((n:Int)-1)).toNat*1) 0):Int)==0)=false)(o1:(0:Int)≤i64.wrap ((n:Int)-1)∧i64.wrap ((n:Int)-1)<(n:Int))(o2:(j0 xs)[(i64.wrap ((n:Int)-1)).toNat*1]?=some (.lit (.int .u32 (↑(xs.getD ((i64.wrap ((n:Int)-1)).toNat*1) 0):Int)))){R:Goal}(hR:R.c (.lst n (j0 xs))):Ok P 62 (loopHead P 62 0) ⟨.cv (.lst n (j0 xs))::z7a 20,[]⟩ R:=
 okT (.b 4 h1 (.c o1 (.l 10 o2 (.c (eqn 1) (.b 13 h2 .nil))))) (by kernel_rfl) hR
theorem zak(n:Nat)(xs:List Nat)(h1:decide ((n:Int)>0)=false){R:Goal}(hR:R.c (.lst n (j0 xs))):Ok P 62 (loopHead P 62 0) ⟨.cv (.lst n (j0 xs))::z7a 20,[]⟩ R:=
 okT (.b 4 h1 .nil) (by kernel_rfl) hR
theorem z9p(xs:List Nat)(k:Nat):(j0 xs).take k=j0 (xs.take k):=by simp[j0]
theorem z92 {R : Goal} (hn : j7 R.n [] = true) : ∀ (k : Nat) (xs : List Nat), xs.length = k → k < 2 ^ 62 → R.c (.lst (tz xs).length (j0 (tz xs))) →
    Ok P 62 (loopHead P 62 0) ⟨.cv (.lst xs.length (j0 xs))::z7a 20,[]⟩ R:=by
 intro k
 induction k with
 |zero=>
  intro xs hl _ hR
  have:xs=[]:=List.length_eq_zero_iff.1 hl
  subst this
  exact zak 0 [] (by decide) hR
 |succ k ih=>
  intro xs hl hk hR
  have hw:i64.wrap ((xs.length:Int)-1)=(k:Int):=by rw[hl,w64 (by omega)];omega
  have hne:xs≠[]:=by intro e;subst e;simp at hl
  have hcon:=W4 hne
  rw[hl,Nat.add_sub_cancel]at hcon
  have hget:(j0 xs)[k]?=some (z3U xs k):=z4Y (by omega)
  by_cases hx:xs.getD k 0=0
  · refine zab xs.length xs (by simp;omega) (by rw[hw];simpa using hx) (by rw[hw];omega) (by rw[hw];simpa[z3U]using hget) (by rw[hw];omega) (by simp[j0]) hn ?_
    rw[hw]
    have h1:((k:Int)-0).toNat=k:=by omega
    rw[h1,Nat.mul_one,List.drop_zero,z9p]
    have h2:(xs.take k).length=k:=by simp;omega
    have:=ih (xs.take k) h2 (by omega) (by rw[hcon,hx,Y3]at hR;exact hR)
    rw[h2]at this
    exact this
  · refine zaA xs.length xs (by simp;omega) (by rw[hw];simpa using hx) (by rw[hw];omega) (by rw[hw];simpa[z3U]using hget) ?_
    rw[hcon,z1m hx,←hcon]at hR
    exact hR
theorem X6(n:Nat)(xs:List Nat)(hn:n=xs.length)(hd:Dig B32 xs)(hl:xs.length<2^62):PCall P 62 [.lst n (j0 xs)] (X5 (val B32 xs)):=by
 subst hn
 refine zaB xs.length xs (z92 rfl _ xs rfl hl ?_)
 exact zcV hd
theorem z7E(a:Int)(h0:0≤a)(h1:a<4294967296):PCall P 62 [.lst 1 [.lit (.int .u32 a)]] (X5 a.toNat):=by
 have:=X6 1 [a.toNat] rfl (by intro x hx;simp only[List.mem_singleton]at hx;simp only[B32];omega) (by simp)
 rw[show j0 [a.toNat]=[.lit (.int .u32 a)] by simp[j0];omega,show val B32 [a.toNat]=a.toNat by simp[val]]at this
 exact this
theorem z7k(a b:Int)(h0:0≤a)(h1:a<4294967296)(g0:0≤b)(g1:b<4294967296):PCall P 62 [.lst 2 [.lit (.int .u32 a),.lit (.int .u32 b)]] (X5 (a+4294967296*b).toNat):=by
 have:=X6 2 [a.toNat,b.toNat] rfl (by intro x hx;simp only[List.mem_cons,List.not_mem_nil,or_false]at hx;simp only[B32];omega) (by simp)
 rw[show j0 [a.toNat,b.toNat]=[.lit (.int .u32 a),.lit (.int .u32 b)] by simp[j0];omega,show val B32 [a.toNat,b.toNat]=(a+4294967296*b).toNat by simp only[val,B32];omega]at this
 exact this
def z0z(ls:List Nat):ByteArray:=⟨(ls.reverse.map UInt8.ofNat).toArray⟩
def z22(s:ByteArray):List Nat:=(s.data.toList.map UInt8.toNat).reverse
def bytesOf(n:Nat):ByteArray:=z0z (dig 256 n)
def Y5(s:ByteArray):Nat:=val 256 (z22 s)
theorem z2a(s:ByteArray):Dig 256 (z22 s):=by
 intro x hx
 simp only[z22,List.mem_reverse,List.mem_map]at hx
 obtain⟨y,_,rfl⟩:=hx
 exact y.toNat_lt
theorem V5(s:ByteArray):(z22 s).length=s.size:=by simp[z22]
theorem z2D(s:ByteArray):z0z (z22 s)=s:=by
 cases s with
 |mk d=>
  simp only[z0z,z22,List.reverse_reverse,List.map_map]
  congr
  have:(UInt8.ofNat∘UInt8.toNat)=id:=by funext x;simp
  rw[this,List.map_id]
theorem z7F{ls:List Nat}(h:Dig 256 ls):z22 (z0z ls)=ls:=by
 simp only[z22,z0z]
 rw[List.map_map,←List.map_reverse,List.reverse_reverse]
 conv=>rhs;rw[←List.map_id ls]
 refine List.map_congr_left fun x hx=>?_
 have:=h x hx
 simp only[Function.comp_apply,id,UInt8.toNat_ofNat']
 omega
theorem z4A(ls:List Nat):(z0z ls).size=ls.length:=by simp[z0z,ByteArray.size]
theorem zaW{a b:ByteArray}(h:a.data.toList=b.data.toList):a=b:=by
 cases a;cases b;congr;exact Array.ext' h
theorem z5m(ls:List Nat)(x:Nat):(z0z (ls++[x])).extract 1 (ls.length+1)=z0z ls:=by
 apply zaW
 simp only[z0z,ByteArray.data_extract,Array.toList_extract,List.reverse_append,List.reverse_cons,List.reverse_nil,List.nil_append,List.singleton_append,List.map_cons,List.extract_eq_take_drop,List.drop_succ_cons,List.drop_zero,Nat.add_sub_cancel]
 rw[List.take_of_length_le (by simp)]
theorem z1V(ls:List Nat)(x:Nat):(z0z (ls++[x])).data.getD 0 0=UInt8.ofNat x:=by simp[z0z]
theorem W5(s:ByteArray):(s.toList==[])=decide (s.size=0):=by
 rw[ByteArray.toList_eq]
 have:s.size=s.data.toList.length:=by simp
 rw[this]
 cases s.data.toList<;>simp
theorem z2T{ls:List Nat}(h:Dig 256 ls):Y5 (z0z ls)=val 256 ls:=by rw[Y5,z7F h]
theorem z02(n:Nat):Y5 (bytesOf n)=n:=by rw[bytesOf,z2T (V7 (by decide) n),Z9 (by decide)]
theorem z18(n:Nat):(bytesOf n).size=(dig 256 n).length:=z4A _
theorem z3w{m n:Nat}(h:bytesOf m=bytesOf n):m=n:=by rw[←z02 m,h,z02]
theorem X4{n:Nat}:(bytesOf n).size=0↔n=0:=by rw[z18];exact Y1 (by decide)
theorem z5x(s:ByteArray):Y5 s<256^s.size:=by rw[Y5,←V5];exact z0u (by decide) _ (z2a s)
theorem z85(s:ByteArray):z0z (tz (z22 s))=bytesOf (Y5 s):=by rw[z1Y (by decide) _ (z2a s)];rfl
theorem zbp(s:ByteArray){i:Nat}(h:i<s.size):(z22 s).getD i 0=(s.data.getD (s.size-1-i) 0).toNat:=by
 have hs:s.size=s.data.size:=rfl
 simp only[z22,List.getD_eq_getElem?_getD]
 rw[List.getElem?_reverse (by simp;omega)]
 simp only[List.length_map,Array.length_toList,List.getElem?_map,Array.getElem?_toList]
 rw[Array.getElem?_eq_getElem (by omega)]
 simp[Array.getD,show s.size-1-i<s.size by omega]
theorem zdr(s:ByteArray)(c:Int){R:CV→Prop}(hR:Ok P 78 (loopHead P 78 0) ⟨J6 17 [(0,.cv (.lit (.string s))),(1,.cv (.lit (.int .u8 c)))],[]⟩ (.of R)):W9 P 78 [.lit (.string s),.lit (.int .u8 c)] R:=
 W7 (keep:=[0,1]) (σ:=[]) (.o 1 .stop .nil) (by kernel_rfl) rfl hR .nil
theorem zcG(s:ByteArray)(c:Int)(h1:decide ((↑s.size:Int)>0)=true)(h2:((↑(s.data.getD 0 (OfNat.ofNat 0)).toNat:Int)==c)=true)(o1:(0:Int)≤0∧(0:Int)<(↑s.size:Int))(o3:(0:Int)≤1∧(1:Int)≤(↑s.size:Int)∧(↑s.size:Int)≤(↑s.size:Int)){R:Goal}(hn:j7 R.n []=true)(hR:Ok P 78 (loopHead P 78 0) ⟨J6 17 [(0,.cv (.lit (.string (s.extract 1 (↑s.size:Int).toNat)))),(1,.cv (.lit (.int .u8 c)))],[]⟩ R):Ok P 78 (loopHead P 78 0) ⟨.cv (.lit (.string s)):: .cv (.lit (.int .u8 c))::z7a 15,[]⟩ R:=
 z39 (keep:=[0,1]) (σ:=[]) (.b 4 h1 (.c o1 (.b 10 h2 (.c o3 (.o 14 .stop .nil))))) (by kernel_rfl) rfl hn hR .nil
theorem zcc(s:ByteArray)(c:Int)(h1:decide ((↑s.size:Int)>0)=true)(h2:((↑(s.data.getD 0 (OfNat.ofNat 0)).toNat:Int)==c)=false)(o1:(0:Int)≤0∧(0:Int)<(↑s.size:Int)){R:Goal}(hR:R.c (.lit (.string s))):Ok P 78 (loopHead P 78 0) ⟨.cv (.lit (.string s)):: .cv (.lit (.int .u8 c))::z7a 15,[]⟩ R:=
 okT (.b 4 h1 (.c o1 (.b 10 h2 .nil))) (by kernel_rfl) hR
theorem zdp(s:ByteArray)(c:Int)(h1:decide ((↑s.size:Int)>0)=false){R:Goal}(hR:R.c (.lit (.string s))):Ok P 78 (loopHead P 78 0) ⟨.cv (.lit (.string s)):: .cv (.lit (.int .u8 c))::z7a 15,[]⟩ R:=
 okT (.b 4 h1 .nil) (by kernel_rfl) hR
abbrev z08(s:ByteArray):CV:= .lit (.string s)
theorem zap {R : Goal} (hn : j7 R.n [] = true) : ∀ (k : Nat) (ls : List Nat), ls.length = k → Dig 256 ls → R.c (z08 (z0z (tz ls))) →
    Ok P 78 (loopHead P 78 0) ⟨.cv (z08 (z0z ls)):: .cv (.lit (.int .u8 0))::z7a 15,[]⟩ R:=by
 intro k
 induction k with
 |zero=>
  intro ls hl _ hR
  have:ls=[]:=List.length_eq_zero_iff.1 hl
  subst this
  exact zdp _ 0 (by decide) hR
 |succ k ih=>
  intro ls hl hd hR
  have hne:ls≠[]:=by intro e;subst e;simp at hl
  have hcon:=W4 hne
  rw[hl,Nat.add_sub_cancel]at hcon
  have hsz:(z0z ls).size=k+1:=by rw[z4A,hl]
  have hx:=hd.get (by decide) k
  have hd':=hd.take k
  have hlt:(ls.take k).length=k:=by simp;omega
  generalize ls.take k=ms at*
  generalize ls.getD k 0=x at*
  subst hcon
  have hfirst:((z0z (ms++[x])).data.getD 0 0).toNat=x:=by rw[z1V];simp;omega
  by_cases h0:x=0
  · refine zcG _ 0 (by rw[hsz];simp) (by rw[show(OfNat.ofNat 0:UInt8)=0 from rfl,hfirst,h0];rfl) (by omega) (by omega) hn ?_
    have:=ih ms hlt hd' (by rw[h0,Y3]at hR;exact hR)
    rw[hsz,show((k+1:Nat):Int).toNat=ms.length+1 by omega,z5m]
    exact this
  · refine zcc _ 0 (by rw[hsz];simp) (by rw[show(OfNat.ofNat 0:UInt8)=0 from rfl,hfirst];simpa using h0) (by omega) ?_
    rw[z1m h0]at hR
    exact hR
theorem zba(s:ByteArray):PCall P 78 [z08 s,.lit (.int .u8 0)] (z08 (bytesOf (Y5 s))):=by
 refine zdr s 0 ?_
 have:=zap (R:= .of (fun x=>x=z08 (bytesOf (Y5 s)))) rfl _ (z22 s) rfl (z2a s) (by rw[z85];rfl)
 rw[z2D]at this
 exact this
end Go.Fw
