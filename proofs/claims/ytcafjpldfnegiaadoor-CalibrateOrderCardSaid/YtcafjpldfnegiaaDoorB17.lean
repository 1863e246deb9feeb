/- A part of the proof that the law returns true for every input: an executor for the model's code, and what functions of the program compute. -/
import Derived.Test.YtcafjpldfnegiaaDoorB11
import Derived.Test.YtcafjpldfnegiaaDoorB15
import Derived.Test.YtcafjpldfnegiaaDoorB16
import Derived.KernelRfl
open Go IntKind
namespace Go.Fw
set_option maxRecDepth 100000
theorem zgO(s:ByteArray)(h1:(s.toList==[])=true):PCall P 73 [.lit (.string s),.lit (.string {data:= #[(0:UInt8)]})] (.lit (.string s)):=
 j3 (.b 3 h1 .nil) (by kernel_rfl)
theorem zh0(s:ByteArray)(h1:(s.toList==[])=false):PCall P 73 [.lit (.string s),.lit (.string {data:= #[(0:UInt8)]})] (.lit (.string (bytesOf (Y5 s)))):=
 j3 (.b 3 h1 (.c (bq 0 1) (.c (bq 0 1) (.r 20 (zba s) .nil)))) (by kernel_rfl)
theorem zac(b:Bool)(s:ByteArray)(h1:(s.toList==[])=true):PCall P 48 [.agg [.lit (.bool b),.lit (.string s)]] (.lit (.bool !b)):=
 j3 (.b 5 h1 .nil) (by kernel_rfl)
theorem z9W(b:Bool)(s:ByteArray)(h1:(s.toList==[])=false)(o1:(0:Int)≤0∧(0:Int)<(↑s.size:Int)):PCall P 48 [.agg [.lit (.bool b),.lit (.string s)]] (.lit (.bool ((↑(s.data.getD 0 (OfNat.ofNat 0)).toNat:Int) != 0))):=
 j3 (.b 5 h1 (.c o1 .nil)) (by kernel_rfl)
theorem zeP(s:ByteArray)(o1:(0:Int)≤i64.wrap ((i64.wrap ((↑s.size:Int)+3)).tdiv 4)∧i64.wrap ((i64.wrap ((↑s.size:Int)+3)).tdiv 4)≤i64.wrap ((i64.wrap ((↑s.size:Int)+3)).tdiv 4)∧(4:Int)*i64.wrap ((i64.wrap ((↑s.size:Int)+3)).tdiv 4)≤140737488355328∧i64.wrap ((i64.wrap ((↑s.size:Int)+3)).tdiv 4)≤4611686018427387904∧1=1)(o2:CvL (List.replicate ((i64.wrap ((i64.wrap ((↑s.size:Int)+3)).tdiv 4)).toNat*1) (.cv (.lit (.int .u32 0))))){R:CV→Prop}(hR:Ok P 53 (loopHead P 53 0) ⟨J6 39 [(0,.cv (.lit (.string s))),(3,.sl 0 0 (i64.wrap ((i64.wrap ((↑s.size:Int)+3)).tdiv 4)).toNat 1),(12,.cv (.lit (.int .i64 (↑s.size:Int)))),(13,.cv (.lit (.int .i64 0)))],[some (List.replicate ((i64.wrap ((i64.wrap ((↑s.size:Int)+3)).tdiv 4)).toNat*1) (.cv (.lit (.int .u32 0))))]⟩ (.of R)):W9 P 53 [.lit (.string s)] R:=
 W7 (keep:=[0,3,12,13]) (σ:=[0]) (.c (nz 4) (.c o1 (.o 10 .stop .nil))) (by kernel_rfl) rfl hR (.cons o2 .nil)
theorem zgi(s:ByteArray)(m i:Nat)(xs:List Nat)(h1:(decide ((i:Int)<(↑s.size:Int)))=true)(o2:(0:Int)≤i64.wrap ((i:Int).tdiv 4)∧i64.wrap ((i:Int).tdiv 4)<(m:Int))(o3:(own (j0 xs))[0+(i64.wrap ((i:Int).tdiv 4)).toNat*1]?=some (.cv (.lit (.int .u32 (↑(xs.getD (0+(i64.wrap ((i:Int).tdiv 4)).toNat*1) 0):Int)))))(o5:(0:Int)≤i64.wrap (i64.wrap ((↑s.size:Int)-1)-(i:Int))∧i64.wrap (i64.wrap ((↑s.size:Int)-1)-(i:Int))<(↑s.size:Int))(o7:(0:Int)≤i64.wrap ((8:Int)*(i:Int).tmod 4))(o8:(0:Int)≤i64.wrap ((i:Int).tdiv 4)∧i64.wrap ((i:Int).tdiv 4)<(m:Int))(o9:0+(i64.wrap ((i:Int).tdiv 4)).toNat*1+1≤(own (j0 xs)).length)(o10:CvL (j4 (own (j0 xs)) (0+(i64.wrap ((i:Int).tdiv 4)).toNat*1) [.cv (.lit (.int .u32 (Y2 BinOp.or u32 (↑(xs.getD (0+(i64.wrap ((i:Int).tdiv 4)).toNat*1) 0):Int) (u32.wrap (u32.wrap (↑(s.data.getD (i64.wrap (i64.wrap ((↑s.size:Int)-1)-(i:Int))).toNat (OfNat.ofNat 0)).toNat:Int)*2^min (i64.wrap ((8:Int)*(i:Int).tmod 4)).toNat 32)))))])){R:Goal}(hn:j7 R.n [0]=true)(hR:Ok P 53 (loopHead P 53 0) ⟨J6 39 [(0,.cv (.lit (.string s))),(3,.sl 0 0 m 1),(12,.cv (.lit (.int .i64 (↑s.size:Int)))),(13,.cv (.lit (.int .i64 (i64.wrap ((i:Int)+1)))))],[some (j4 (own (j0 xs)) (0+(i64.wrap ((i:Int).tdiv 4)).toNat*1) [.cv (.lit (.int .u32 (Y2 BinOp.or u32 (↑(xs.getD (0+(i64.wrap ((i:Int).tdiv 4)).toNat*1) 0):Int) (u32.wrap (u32.wrap (↑(s.data.getD (i64.wrap (i64.wrap ((↑s.size:Int)-1)-(i:Int))).toNat (OfNat.ofNat 0)).toNat:Int)*2^min (i64.wrap ((8:Int)*(i:Int).tmod 4)).toNat 32)))))])]⟩ R):Ok P 53 (loopHead P 53 0) ⟨.cv (.lit (.string s))::MV.unk::MV.unk:: .sl 0 0 m 1::(z7a 8++ .cv (.lit (.int .i64 (↑s.size:Int))):: .cv (.lit (.int .i64 (i:Int)))::z7a 25),[some (own (j0 xs))]⟩ R:=
 z39 (keep:=[0,3,12,13]) (σ:=[0]) (.b 2 h1 (.c (nz 4) (.c o2 (.e 15 o3 (.c (eqn 1) (.c o5 (.c (nz 4) (.c o7 (.c o8 (.c o9 (.o 29 .stop .nil))))))))))) (by kernel_rfl) rfl hn hR (.cons o10 .nil)
theorem zfd(s:ByteArray)(m i:Nat)(xs:List Nat)(h1:(decide ((i:Int)<(↑s.size:Int)))=false)(a:m=xs.length)(d:Dig 4294967296 xs)(e:xs.length<2^62)(o2:List.take (m*1) (List.drop 0 (own (j0 xs)))=List.map MV.cv (j0 xs)){R:Goal}(hR:R.c (.lst (dig 4294967296 (val 4294967296 xs)).length (j0 (dig 4294967296 (val 4294967296 xs))))):Ok P 53 (loopHead P 53 0) ⟨.cv (.lit (.string s))::MV.unk::MV.unk:: .sl 0 0 m 1::(z7a 8++ .cv (.lit (.int .i64 (↑s.size:Int))):: .cv (.lit (.int .i64 (i:Int)))::z7a 25),[some (own (j0 xs))]⟩ R:=
 okT (.b 2 h1 (.rs 4 [j0 xs] (X6 m xs a d e) (.c o2 .nil))) (by kernel_rfl) hR
theorem zcB(s:ByteArray):PCall P 73 [z08 s,z08 ⟨#[0]⟩] (z08 (bytesOf (Y5 s))):=by
 by_cases h:s.size=0
 · have h1:z22 s=[]:=List.length_eq_zero_iff.1 (by rw[V5,h])
   have h2:s=⟨#[]⟩:=by rw[←z2D s,h1];rfl
   refine(zgO s (by rw[W5];simpa using h)).eq ?_
   rw[Y5,h1,h2];rfl
 · exact zh0 s (by rw[W5];simpa using h)
def Q0(neg:Bool)(mag:ByteArray):Bool:=if mag.size=0 then !neg else decide ((mag.data.getD 0 0).toNat≠0)
theorem Q5(b:Bool)(s:ByteArray):PCall P 48 [.agg [.lit (.bool b),z08 s]] (.lit (.bool (Q0 b s))):=by
 by_cases h:s.size=0
 · refine(zac b s (by rw[W5];simpa using h)).eq ?_
   simp[Q0,h]
 · refine(z9W b s (by rw[W5];simpa using h) (by omega)).eq ?_
   rw[Q0,if_neg h]
   congr 2
   rw[show(OfNat.ofNat 0:UInt8)=0 from rfl]
   generalize (s.data.getD 0 0).toNat=n
   by_cases hn:n=0
   · subst hn;rfl
   · have:(n:Int)≠0:=by omega
     simp[hn]
theorem zcr {R : Goal} (hn : j7 R.n [0] = true) (s : ByteArray) (hs : s.size < 2 ^ 40) (hR : R.c (X5 (Y5 s))) :
    ∀(k i:Nat),s.size-i=k→i≤s.size→
    Ok P 53 (loopHead P 53 0) ⟨.cv (.lit (.string s)):: .unk:: .unk:: .sl 0 0 ((s.size+3)/4) 1::(z7a 8++ .cv (.lit (.int .i64 s.size)):: .cv (.lit (.int .i64 i))::z7a 25),
     [some (own (j0 (Q7 B32 ((s.size+3)/4) (val 256 ((z22 s).take i)))))]⟩ R:=by
 intro k
 induction k with
 |zero=>
  intro i hk hi
  have:i=s.size:=by omega
  subst this
  have hv:val 256 ((z22 s).take s.size)=Y5 s:=by rw[←V5,List.take_length];rfl
  rw[hv]
  have hlen:=j5 B32 ((s.size+3)/4) (Y5 s)
  refine zfd s _ s.size _ (by simp) hlen.symm (z0p (by decide) _ _) (by rw[hlen];omega) (z0H (by rw[j9,hlen])) ?_
  have:val 4294967296 (Q7 B32 ((s.size+3)/4) (Y5 s))=Y5 s:=by
   rw[show(4294967296:Nat)=B32 from rfl,z0w,Nat.mod_eq_of_lt]
   refine Nat.lt_of_lt_of_le (z5x s) ?_
   rw[show B32=256^4 from rfl,←Nat.pow_mul]
   exact Nat.pow_le_pow_right (by decide) (by omega)
  rw[this]
  exact hR
 |succ k ih=>
  intro i hk hi
  have hlt:i<s.size:=by omega
  have hlen:=j5 B32 ((s.size+3)/4) (val 256 ((z22 s).take i))
  have hbyte:=(z2a s).get (by decide) i
  have hget:=zbp s hlt
  have hv:=Y0 (b:=256) (xs:=z22 s) (i:=i) (by rw[V5];exact hlt)
  have hvlt:val 256 ((z22 s).take i)<256^i:=by
   have:=z0u (by decide:0<256) _ ((z2a s).take i)
   rw[List.length_take,V5,Nat.min_eq_left (Nat.le_of_lt hlt)]at this
   exact this
  generalize (z22 s).getD i 0=d at*
  generalize val 256 ((z22 s).take i)=v at*
  generalize hm:(s.size+3)/4=m at*
  have hjm:i/4<m:=by omega
  have hdg:=X0 B32 m v (i/4) hjm
  have hpow:(256:Nat)^i=B32^(i/4)*256^(i%4):=by
   rw[show B32=256^4 from rfl,←Nat.pow_mul,←Nat.pow_add,Nat.div_add_mod]
  have hq:v/B32^(i/4)<256^(i%4):=by
   rw[Nat.div_lt_iff_lt_mul (Nat.pow_pos (by decide)),Nat.mul_comm,←hpow];exact hvlt
  have hp3:(256:Nat)^(i%4)≤16777216:=by
   rw[show(16777216:Nat)=256^3 from rfl];exact Nat.pow_le_pow_right (by decide) (by omega)
  have hqm:v/B32^(i/4)%B32=v/B32^(i/4):=Nat.mod_eq_of_lt (by simp only[B32]at*;omega)
  have hr:(256:Nat)^(i%4)=2^(8*(i%4)):=by rw[show(256:Nat)=2^8 from rfl,←Nat.pow_mul]
  have hdr:d*256^(i%4)+v/B32^(i/4)<B32:=by
   have:(d+1)*256^(i%4)≤256*256^(i%4):=Nat.mul_le_mul_right _ hbyte
   have h4:256*256^(i%4)≤B32:=by simp only[B32];omega
   rw[Nat.add_mul,Nat.one_mul]at this
   omega
  have e1:i64.wrap ((i:Int).tdiv 4)=((i/4:Nat):Int):=by rw[Int.tdiv_eq_ediv_of_nonneg (by omega),w64 (by omega)];omega
  have e2:i64.wrap (i64.wrap ((s.size:Int)-1)-(i:Int))=((s.size-1-i:Nat):Int):=by rw[w64 (n:=(s.size:Int)-1) (by omega),w64 (by omega)];omega
  have e3:i64.wrap (8*(i:Int).tmod 4)=((8*(i%4):Nat):Int):=by rw[Int.tmod_eq_emod_of_nonneg (by omega),w64 (by omega)];omega
  have e4:i64.wrap ((i:Int)+1)=((i+1:Nat):Int):=by rw[w64 (by omega)];omega
  have e5:(0:Nat)+((i/4:Nat):Int).toNat*1=i/4:=by omega
  have e6:min (((8*(i%4):Nat):Int)).toNat 32=8*(i%4):=by omega
  have e7:Y2 BinOp.or u32 (((Q7 B32 m v).getD (i/4) 0:Nat):Int) (u32.wrap (u32.wrap (((s.data.getD (((s.size-1-i:Nat):Int)).toNat (OfNat.ofNat 0)).toNat:Nat):Int)*2^min (((8*(i%4):Nat):Int)).toNat 32))=((v/B32^(i/4)%B32+d*256^(i%4):Nat):Int):=by
   rw[e6,hdg,hqm,show(((s.size-1-i:Nat):Int)).toNat=s.size-1-i by omega,show(OfNat.ofNat 0:UInt8)=0 from rfl,←hget]
   have e8:u32.wrap (u32.wrap (d:Int)*2^(8*(i%4)))=((d*2^(8*(i%4)):Nat):Int):=by
    have h5:u32.wrap (d:Int)=d:=by rw[z5o];omega
    rw[h5]
    have h6:(d:Int)*2^(8*(i%4))=((d*2^(8*(i%4)):Nat):Int):=by norm_cast
    rw[h6,z5o]
    rw[←hr]at*
    simp only[B32]at*;omega
   have hq2:v/B32^(i/4)<2^(8*(i%4)):=by rw[←hr];exact hq
   rw[e8,←hr,z9I (by simp only[B32]at*;omega) (by simp only[B32]at*;omega),Nat.or_comm,hr,z0R _ hq2,Nat.add_comm]
  refine zgi s m i _ (by simp;omega) (by rw[e1];omega) ?_ (by rw[e2];omega) (by rw[e3];omega) (by rw[e1];omega) (by rw[e1,e5,J4,j9,hlen];omega) ?_ hn ?_
  · rw[e1,e5];exact U1 (z4Y (by rw[hlen];exact hjm))
  · rw[e1,e2,e3,e5,e7,J0 (by rw[hlen];exact hjm)];exact J8 _
  · rw[e1,e2,e3,e4,e5,e7,J0 (by rw[hlen];exact hjm),z0Y (by decide) m v _ _ hjm (by rw[hqm];omega)]
    have h7:v+d*256^(i%4)*B32^(i/4)=v+256^i*d:=by rw[hpow,Nat.mul_assoc,Nat.mul_comm,Nat.mul_comm (256^(i%4))]
    rw[h7,←hv]
    exact ih (i+1) (by omega) (by omega)
theorem z09(s:ByteArray)(hs:s.size<2^40):PCall P 53 [z08 s] (X5 (Y5 s)):=by
 have e1:i64.wrap ((i64.wrap ((s.size:Int)+3)).tdiv 4)=(((s.size+3)/4:Nat):Int):=by
  rw[w64 (n:=(s.size:Int)+3) (by omega),Int.tdiv_eq_ediv_of_nonneg (by omega),w64 (by omega)];omega
 refine zeP s (by rw[e1];omega) (by rw[e1,Y6];exact J8 _) ?_
 rw[e1,Y6]
 have:=zcr (R:= .of (fun x=>x=X5 (Y5 s))) rfl s hs rfl _ 0 rfl (Nat.zero_le _)
 rw[List.take_zero,show val 256 []=0 from rfl,z19]at this
 rw[show(((s.size+3)/4:Nat):Int).toNat=(s.size+3)/4 by omega,Nat.mul_one]
 exact this
theorem zc2(n:Nat)(xs:List Nat)(o0:(0:Int)≤0∧(0:Int)≤i64.wrap ((4:Int)*n)∧(1:Int)*i64.wrap ((4:Int)*n)≤140737488355328∧i64.wrap ((4:Int)*n)≤4611686018427387904∧1=1)(o1:CvL (List.replicate ((i64.wrap ((4:Int)*n)).toNat*1) (.cv (.lit (.int .u8 0))))){R:CV→Prop}(hR:Ok P 63 (loopHead P 63 0) ⟨J6 45 [(0,.cv (.lst n (j0 xs))),(3,.sl 0 0 0 1),(4,.cv (.lit (.int .i64 (i64.wrap ((n:Int)-1)))))],[some (List.replicate ((i64.wrap ((4:Int)*n)).toNat*1) (.cv (.lit (.int .u8 0))))]⟩ (.of R)):W9 P 63 [.lst n (j0 xs)] R:=
 W7 (keep:=[0,3,4]) (σ:=[0]) (.c o0 (.o 10 .stop .nil)) (by kernel_rfl) rfl hR (.cons o1 .nil)
theorem ze1(n m:Nat)(xs ys:List Nat)(h1:((n:Int) != (m:Int))=true):PCall P 55 [.lst n (j0 xs),.lst m (j0 ys)] (.lit (.int .i64 (i64.wrap ((n:Int)-m)))):=
 j3 (.b 6 h1 .nil) (by kernel_rfl)
theorem zdw(n m:Nat)(xs ys:List Nat)(h1:((n:Int) != (m:Int))=false){R:CV→Prop}(hR:Ok P 55 (loopHead P 55 0) ⟨J6 43 [(0,.cv (.lst n (j0 xs))),(1,.cv (.lst m (j0 ys))),(5,.cv (.lit (.int .i64 (i64.wrap ((n:Int)-1)))))],[]⟩ (.of R)):W9 P 55 [.lst n (j0 xs),.lst m (j0 ys)] R:=
 W7 (keep:=[0,1,5]) (σ:=[]) (.b 6 h1 (.o 11 .stop .nil)) (by kernel_rfl) rfl hR .nil
theorem ze9(n m:Nat)(xs ys:List Nat)(h1:decide ((n:Int)<m)=true)(o1:(0:Int)≤i64.wrap ((m:Int)+1)∧i64.wrap ((m:Int)+1)≤i64.wrap ((m:Int)+1)∧(4:Int)*i64.wrap ((m:Int)+1)≤140737488355328∧i64.wrap ((m:Int)+1)≤4611686018427387904∧1=1)(o2:CvL (List.replicate ((i64.wrap ((m:Int)+1)).toNat*1) (.cv (.lit (.int .u32 0))))){R:CV→Prop}(hR:Ok P 54 (loopHead P 54 0) ⟨J6 54 [(0,.cv (.lst m (j0 ys))),(1,.cv (.lst n (j0 xs))),(5,.sl 0 0 (i64.wrap ((m:Int)+1)).toNat 1),(6,.cv (.lit (.int .u32 0))),(21,.cv (.lst m (j0 ys))),(22,.cv (.lit (.int .i64 (m:Int)))),(23,.cv (.lit (.int .i64 0)))],[some (List.replicate ((i64.wrap ((m:Int)+1)).toNat*1) (.cv (.lit (.int .u32 0))))]⟩ (.of R)):W9 P 54 [.lst n (j0 xs),.lst m (j0 ys)] R:=
 W7 (keep:=[0,1,5,6,21,22,23]) (σ:=[0]) (.b 6 h1 (.c o1 (.o 20 .stop .nil))) (by kernel_rfl) rfl hR (.cons o2 .nil)
theorem ze6(n m:Nat)(xs ys:List Nat)(h1:decide ((n:Int)<m)=false)(o1:(0:Int)≤i64.wrap ((n:Int)+1)∧i64.wrap ((n:Int)+1)≤i64.wrap ((n:Int)+1)∧(4:Int)*i64.wrap ((n:Int)+1)≤140737488355328∧i64.wrap ((n:Int)+1)≤4611686018427387904∧1=1)(o2:CvL (List.replicate ((i64.wrap ((n:Int)+1)).toNat*1) (.cv (.lit (.int .u32 0))))){R:CV→Prop}(hR:Ok P 54 (loopHead P 54 0) ⟨J6 54 [(0,.cv (.lst n (j0 xs))),(1,.cv (.lst m (j0 ys))),(5,.sl 0 0 (i64.wrap ((n:Int)+1)).toNat 1),(6,.cv (.lit (.int .u32 0))),(21,.cv (.lst n (j0 xs))),(22,.cv (.lit (.int .i64 (n:Int)))),(23,.cv (.lit (.int .i64 0)))],[some (List.replicate ((i64.wrap ((n:Int)+1)).toNat*1) (.cv (.lit (.int .u32 0))))]⟩ (.of R)):W9 P 54 [.lst n (j0 xs),.lst m (j0 ys)] R:=
 W7 (keep:=[0,1,5,6,21,22,23]) (σ:=[0]) (.b 6 h1 (.c o1 (.o 16 .stop .nil))) (by kernel_rfl) rfl hR (.cons o2 .nil)
theorem z9T(n m:Nat)(xs ys:List Nat)(o0:(0:Int)≤n∧(n:Int)≤n∧(4:Int)*n≤140737488355328∧(n:Int)≤4611686018427387904∧1=1)(o1:CvL (List.replicate ((n:Int).toNat*1) (.cv (.lit (.int .u32 0))))){R:CV→Prop}(hR:Ok P 56 (loopHead P 56 0) ⟨J6 41 [(1,.cv (.lst m (j0 ys))),(5,.sl 0 0 (n:Int).toNat 1),(6,.cv (.lit (.int .u32 0))),(13,.cv (.lst n (j0 xs))),(14,.cv (.lit (.int .i64 (n:Int)))),(15,.cv (.lit (.int .i64 0)))],[some (List.replicate ((n:Int).toNat*1) (.cv (.lit (.int .u32 0))))]⟩ (.of R)):W9 P 56 [.lst n (j0 xs),.lst m (j0 ys)] R:=
 W7 (keep:=[1,5,6,13,14,15]) (σ:=[0]) (.c o0 (.o 9 .stop .nil)) (by kernel_rfl) rfl hR (.cons o1 .nil)
theorem z8l(n:Nat)(d:Int)(xs:List Nat)(o0:(0:Int)≤n∧(n:Int)≤n∧(4:Int)*n≤140737488355328∧(n:Int)≤4611686018427387904∧1=1)(o1:CvL (List.replicate ((n:Int).toNat*1) (.cv (.lit (.int .u32 0))))){R:CV→Prop}(hR:Ok P 82 (loopHead P 82 0) ⟨J6 35 [(0,.cv (.lst n (j0 xs))),(1,.cv (.lit (.int .u32 d))),(6,.sl 0 0 (n:Int).toNat 1),(7,.cv (.lit (.int .u32 0))),(8,.cv (.lit (.int .i64 (i64.wrap ((n:Int)-1)))))],[some (List.replicate ((n:Int).toNat*1) (.cv (.lit (.int .u32 0))))]⟩ (.of R)):W9 P 82 [.lst n (j0 xs),.lit (.int .u32 d)] R:=
 W7 (keep:=[0,1,6,7,8]) (σ:=[0]) (.c o0 (.o 11 .stop .nil)) (by kernel_rfl) rfl hR (.cons o1 .nil)
theorem z7y(n:Nat)(xs:List Nat){R:CV→Prop}(hR:Ok P 76 (loopHead P 76 0) ⟨J6 21 [(0,.cv (.lst n (j0 xs))),(3,.cv (.lit (.int .u64 0))),(4,.cv (.lit (.int .i64 (i64.wrap ((n:Int)-1)))))],[]⟩ (.of R)):W9 P 76 [.lst n (j0 xs)] R:=
 W7 (keep:=[0,3,4]) (σ:=[]) (.o 6 .stop .nil) (by kernel_rfl) rfl hR .nil
theorem zd1(n m:Nat)(xs ys:List Nat)(o0:(0:Int)≤i64.wrap (i64.wrap ((n:Int)+m)+1)∧i64.wrap (i64.wrap ((n:Int)+m)+1)≤i64.wrap (i64.wrap ((n:Int)+m)+1)∧(4:Int)*i64.wrap (i64.wrap ((n:Int)+m)+1)≤140737488355328∧i64.wrap (i64.wrap ((n:Int)+m)+1)≤4611686018427387904∧1=1)(o1:CvL (List.replicate ((i64.wrap (i64.wrap ((n:Int)+m)+1)).toNat*1) (.cv (.lit (.int .u32 0))))){R:CV→Prop}(hR:Ok P 59 (loopHead P 59 0) ⟨J6 45 [(1,.cv (.lst m (j0 ys))),(5,.sl 0 0 (i64.wrap (i64.wrap ((n:Int)+m)+1)).toNat 1),(6,MV.fn 70 [.sl 0 0 (i64.wrap (i64.wrap ((n:Int)+m)+1)).toNat 1] []),(20,.cv (.lst n (j0 xs))),(21,.cv (.lit (.int .i64 (n:Int)))),(22,.cv (.lit (.int .i64 0)))],[some (List.replicate ((i64.wrap (i64.wrap ((n:Int)+m)+1)).toNat*1) (.cv (.lit (.int .u32 0))))]⟩ (.of R)):W9 P 59 [.lst n (j0 xs),.lst m (j0 ys)] R:=
 W7 (keep:=[1,5,6,20,21,22]) (σ:=[0]) (.c o0 (.o 15 .stop .nil)) (by kernel_rfl) rfl hR (.cons o1 .nil)
theorem zc6(n m:Nat)(i:Int)(xs ys:List Nat)(h1:decide (i≥0)=true)(h2:decide ((↑(xs.getD (i.toNat*1) 0):Int)<(↑(ys.getD (i.toNat*1) 0):Int))=true)(o1:(0:Int)≤i∧i<(n:Int))(o2:(j0 xs)[i.toNat*1]?=some (.lit (.int .u32 ↑(xs.getD (i.toNat*1) 0))))(o4:(0:Int)≤i∧i<(m:Int))(o5:(j0 ys)[i.toNat*1]?=some (.lit (.int .u32 ↑(ys.getD (i.toNat*1) 0)))){R:Goal}(hR:R.c (.lit (.int .i64 (-1:Int)))):Ok P 55 (loopHead P 55 0) ⟨J6 43 [(0,.cv (.lst n (j0 xs))),(1,.cv (.lst m (j0 ys))),(5,.cv (.lit (.int .i64 i)))],[]⟩ R:=
 okT (.b 3 h1 (.c o1 (.l 7 o2 (.c (eqn 1) (.c o4 (.l 11 o5 (.c (eqn 1) (.b 14 h2 .nil)))))))) (by kernel_rfl) hR
theorem zea(n m:Nat)(i:Int)(xs ys:List Nat)(h1:decide (i≥0)=true)(h2:decide ((↑(xs.getD (i.toNat*1) 0):Int)<(↑(ys.getD (i.toNat*1) 0):Int))=false)(h3:decide ((↑(xs.getD (i.toNat*1) 0):Int)>(↑(ys.getD (i.toNat*1) 0):Int))=true)(o1:(0:Int)≤i∧i<(n:Int))(o2:(j0 xs)[i.toNat*1]?=some (.lit (.int .u32 ↑(xs.getD (i.toNat*1) 0))))(o4:(0:Int)≤i∧i<(m:Int))(o5:(j0 ys)[i.toNat*1]?=some (.lit (.int .u32 ↑(ys.getD (i.toNat*1) 0))))(o8:(0:Int)≤i∧i<(n:Int))(o9:(j0 xs)[i.toNat*1]?=some (.lit (.int .u32 ↑(xs.getD (i.toNat*1) 0))))(o11:(0:Int)≤i∧i<(m:Int))(o12:(j0 ys)[i.toNat*1]?=some (.lit (.int .u32 ↑(ys.getD (i.toNat*1) 0)))){R:Goal}(hR:R.c (.lit (.int .i64 1))):Ok P 55 (loopHead P 55 0) ⟨J6 43 [(0,.cv (.lst n (j0 xs))),(1,.cv (.lst m (j0 ys))),(5,.cv (.lit (.int .i64 i)))],[]⟩ R:=
 okT (.b 3 h1 (.c o1 (.l 7 o2 (.c (eqn 1) (.c o4 (.l 11 o5 (.c (eqn 1) (.b 14 h2 (.c o8 (.l 18 o9 (.c (eqn 1) (.c o11 (.l 22 o12 (.c (eqn 1) (.b 25 h3 .nil))))))))))))))) (by kernel_rfl) hR
theorem zdJ(n m:Nat)(i:Int)(xs ys:List Nat)(h1:decide (i≥0)=true)(h2:decide ((↑(xs.getD (i.toNat*1) 0):Int)<(↑(ys.getD (i.toNat*1) 0):Int))=false)(h3:decide ((↑(xs.getD (i.toNat*1) 0):Int)>(↑(ys.getD (i.toNat*1) 0):Int))=false)(o1:(0:Int)≤i∧i<(n:Int))(o2:(j0 xs)[i.toNat*1]?=some (.lit (.int .u32 ↑(xs.getD (i.toNat*1) 0))))(o4:(0:Int)≤i∧i<(m:Int))(o5:(j0 ys)[i.toNat*1]?=some (.lit (.int .u32 ↑(ys.getD (i.toNat*1) 0))))(o8:(0:Int)≤i∧i<(n:Int))(o9:(j0 xs)[i.toNat*1]?=some (.lit (.int .u32 ↑(xs.getD (i.toNat*1) 0))))(o11:(0:Int)≤i∧i<(m:Int))(o12:(j0 ys)[i.toNat*1]?=some (.lit (.int .u32 ↑(ys.getD (i.toNat*1) 0)))){R:Goal}(hn:j7 R.n []=true)(hR:Ok P 55 (loopHead P 55 0) ⟨J6 43 [(0,.cv (.lst n (j0 xs))),(1,.cv (.lst m (j0 ys))),(5,.cv (.lit (.int .i64 (i64.wrap (i-1)))))],[]⟩ R):Ok P 55 (loopHead P 55 0) ⟨J6 43 [(0,.cv (.lst n (j0 xs))),(1,.cv (.lst m (j0 ys))),(5,.cv (.lit (.int .i64 i)))],[]⟩ R:=
 z39 (keep:=[0,1,5]) (σ:=[]) (.b 3 h1 (.c o1 (.l 7 o2 (.c (eqn 1) (.c o4 (.l 11 o5 (.c (eqn 1) (.b 14 h2 (.c o8 (.l 18 o9 (.c (eqn 1) (.c o11 (.l 22 o12 (.c (eqn 1) (.b 25 h3 (.o 29 .stop .nil)))))))))))))))) (by kernel_rfl) rfl hn hR .nil
theorem zef(n m:Nat)(i:Int)(xs ys:List Nat)(h1:decide (i≥0)=false){R:Goal}(hR:R.c (.lit (.int .i64 0))):Ok P 55 (loopHead P 55 0) ⟨J6 43 [(0,.cv (.lst n (j0 xs))),(1,.cv (.lst m (j0 ys))),(5,.cv (.lit (.int .i64 i)))],[]⟩ R:=
 okT (.b 3 h1 .nil) (by kernel_rfl) hR
theorem zc7(n m o c i:Nat)(xs ys zs:List Nat)(h1:decide ((i:Int)<m)=true)(h2:decide ((i:Int)<n)=true)(a:ys.getD ((i:Int).toNat*1) 0<4294967296)(d:xs.getD ((i:Int).toNat*1) 0<4294967296)(e:c≤1)(o1:(0:Int)≤i∧(i:Int)<m)(o2:(j0 ys)[(i:Int).toNat*1]?=some (.lit (.int .u32 ↑(ys.getD ((i:Int).toNat*1) 0))))(o5:(0:Int)≤i∧(i:Int)<n)(o6:(j0 xs)[(i:Int).toNat*1]?=some (.lit (.int .u32 ↑(xs.getD ((i:Int).toNat*1) 0))))(o9:(0:Int)≤i∧(i:Int)<o)(o10:0+(i:Int).toNat*1+1≤(own (j0 zs)).length)(o11:CvL (j4 (own (j0 zs)) (0+(i:Int).toNat*1) [.cv (.lit (.int .u32 (↑((ys.getD ((i:Int).toNat*1) 0+xs.getD ((i:Int).toNat*1) 0+c)%4294967296):Int)))])){R:Goal}(hn:j7 R.n [0]=true)(hR:Ok P 54 (loopHead P 54 0) ⟨J6 54 [(0,.cv (.lst m (j0 ys))),(1,.cv (.lst n (j0 xs))),(5,.sl 0 0 o 1),(6,.cv (.lit (.int .u32 (↑((ys.getD ((i:Int).toNat*1) 0+xs.getD ((i:Int).toNat*1) 0+c)/4294967296):Int)))),(21,.cv (.lst m (j0 ys))),(22,.cv (.lit (.int .i64 (m:Int)))),(23,.cv (.lit (.int .i64 (i64.wrap ((i:Int)+1)))))],[some (j4 (own (j0 zs)) (0+(i:Int).toNat*1) [.cv (.lit (.int .u32 (↑((ys.getD ((i:Int).toNat*1) 0+xs.getD ((i:Int).toNat*1) 0+c)%4294967296):Int)))])]⟩ R):Ok P 54 (loopHead P 54 0) ⟨J6 54 [(0,.cv (.lst m (j0 ys))),(1,.cv (.lst n (j0 xs))),(5,.sl 0 0 o 1),(6,.cv (.lit (.int .u32 (c:Int)))),(21,.cv (.lst m (j0 ys))),(22,.cv (.lit (.int .i64 (m:Int)))),(23,.cv (.lit (.int .i64 (i:Int))))],[some (own (j0 zs))]⟩ R:=
 z39 (keep:=[0,1,5,6,21,22,23]) (σ:=[0]) (.b 2 h1 (.c o1 (.l 5 o2 (.c (eqn 1) (.b 13 h2 (.c o5 (.l 17 o6 (.c (eqn 1) (.c (z0f (ys.getD ((i:Int).toNat*1) 0) (xs.getD ((i:Int).toNat*1) 0) c a d e) (.c o9 (.c o10 (.o 24 (.r (.tup [.lit (.int .u32 (↑((ys.getD ((i:Int).toNat*1) 0+xs.getD ((i:Int).toNat*1) 0+c)%4294967296):Int)),.lit (.int .u32 (↑((ys.getD ((i:Int).toNat*1) 0+xs.getD ((i:Int).toNat*1) 0+c)/4294967296):Int))])) (.o 33 .stop .nil))))))))))))) (by kernel_rfl) rfl hn hR (.cons o11 .nil)
theorem zcI(n m o c i:Nat)(xs ys zs:List Nat)(h1:decide ((i:Int)<m)=true)(h2:decide ((i:Int)<n)=false)(a:ys.getD ((i:Int).toNat*1) 0<4294967296)(d:0<4294967296)(e:c≤1)(o1:(0:Int)≤i∧(i:Int)<m)(o2:(j0 ys)[(i:Int).toNat*1]?=some (.lit (.int .u32 ↑(ys.getD ((i:Int).toNat*1) 0))))(o6:(0:Int)≤i∧(i:Int)<o)(o7:0+(i:Int).toNat*1+1≤(own (j0 zs)).length)(o8:CvL (j4 (own (j0 zs)) (0+(i:Int).toNat*1) [.cv (.lit (.int .u32 (↑((ys.getD ((i:Int).toNat*1) 0+0+c)%4294967296):Int)))])){R:Goal}(hn:j7 R.n [0]=true)(hR:Ok P 54 (loopHead P 54 0) ⟨J6 54 [(0,.cv (.lst m (j0 ys))),(1,.cv (.lst n (j0 xs))),(5,.sl 0 0 o 1),(6,.cv (.lit (.int .u32 (↑((ys.getD ((i:Int).toNat*1) 0+0+c)/4294967296):Int)))),(21,.cv (.lst m (j0 ys))),(22,.cv (.lit (.int .i64 (m:Int)))),(23,.cv (.lit (.int .i64 (i64.wrap ((i:Int)+1)))))],[some (j4 (own (j0 zs)) (0+(i:Int).toNat*1) [.cv (.lit (.int .u32 (↑((ys.getD ((i:Int).toNat*1) 0+0+c)%4294967296):Int)))])]⟩ R):Ok P 54 (loopHead P 54 0) ⟨J6 54 [(0,.cv (.lst m (j0 ys))),(1,.cv (.lst n (j0 xs))),(5,.sl 0 0 o 1),(6,.cv (.lit (.int .u32 (c:Int)))),(21,.cv (.lst m (j0 ys))),(22,.cv (.lit (.int .i64 (m:Int)))),(23,.cv (.lit (.int .i64 (i:Int))))],[some (own (j0 zs))]⟩ R:=
 z39 (keep:=[0,1,5,6,21,22,23]) (σ:=[0]) (.b 2 h1 (.c o1 (.l 5 o2 (.c (eqn 1) (.b 13 h2 (.c (z0f (ys.getD ((i:Int).toNat*1) 0) 0 c a d e) (.c o6 (.c o7 (.o 19 (.r (.tup [.lit (.int .u32 (↑((ys.getD ((i:Int).toNat*1) 0+0+c)%4294967296):Int)),.lit (.int .u32 (↑((ys.getD ((i:Int).toNat*1) 0+0+c)/4294967296):Int))])) (.o 28 .stop .nil)))))))))) (by kernel_rfl) rfl hn hR (.cons o8 .nil)
theorem zcz(n m o c i:Nat)(xs ys zs:List Nat)(h1:decide ((i:Int)<m)=false)(a:o=(zs.set (0+(m:Int).toNat*1) c).length)(d:Dig 4294967296 (zs.set (0+(m:Int).toNat*1) c))(e:(zs.set (0+(m:Int).toNat*1) c).length<2^62)(o1:(0:Int)≤m∧(m:Int)<o)(o2:0+(m:Int).toNat*1+1≤(own (j0 zs)).length)(o4:List.take (o*1) (List.drop 0 (j4 (own (j0 zs)) (0+(m:Int).toNat*1) [.cv (.lit (.int .u32 (c:Int)))]))=List.map MV.cv (j0 (zs.set (0+(m:Int).toNat*1) c))){R:Goal}(hR:R.c (.lst (dig 4294967296 (val 4294967296 (zs.set (0+(m:Int).toNat*1) c))).length (j0 (dig 4294967296 (val 4294967296 (zs.set (0+(m:Int).toNat*1) c)))))):Ok P 54 (loopHead P 54 0) ⟨J6 54 [(0,.cv (.lst m (j0 ys))),(1,.cv (.lst n (j0 xs))),(5,.sl 0 0 o 1),(6,.cv (.lit (.int .u32 (c:Int)))),(21,.cv (.lst m (j0 ys))),(22,.cv (.lit (.int .i64 (m:Int)))),(23,.cv (.lit (.int .i64 (i:Int))))],[some (own (j0 zs))]⟩ R:=
 okT (.b 2 h1 (.c o1 (.c o2 (.rs 10 [j0 (zs.set (0+(m:Int).toNat*1) c)] (X6 o (zs.set (0+(m:Int).toNat*1) c) a d e) (.c o4 .nil))))) (by kernel_rfl) hR
theorem za8(n m o c i:Nat)(xs ys zs:List Nat)(h1:decide ((i:Int)<n)=true)(h2:decide ((i:Int)<m)=true)(a:xs.getD ((i:Int).toNat*1) 0<4294967296)(d:ys.getD ((i:Int).toNat*1) 0<4294967296)(e:c≤1)(o1:(0:Int)≤i∧(i:Int)<n)(o2:(j0 xs)[(i:Int).toNat*1]?=some (.lit (.int .u32 ↑(xs.getD ((i:Int).toNat*1) 0))))(o5:(0:Int)≤i∧(i:Int)<m)(o6:(j0 ys)[(i:Int).toNat*1]?=some (.lit (.int .u32 ↑(ys.getD ((i:Int).toNat*1) 0))))(o9:(0:Int)≤i∧(i:Int)<o)(o10:0+(i:Int).toNat*1+1≤(own (j0 zs)).length)(o11:CvL (j4 (own (j0 zs)) (0+(i:Int).toNat*1) [.cv (.lit (.int .u32 (↑((xs.getD ((i:Int).toNat*1) 0+8589934592-ys.getD ((i:Int).toNat*1) 0-c)%4294967296):Int)))])){R:Goal}(hn:j7 R.n [0]=true)(hR:Ok P 56 (loopHead P 56 0) ⟨J6 41 [(1,.cv (.lst m (j0 ys))),(5,.sl 0 0 o 1),(6,.cv (.lit (.int .u32 ↑(if xs.getD ((i:Int).toNat*1) 0<ys.getD ((i:Int).toNat*1) 0+c then(1:Nat)else(0:Nat))))),(13,.cv (.lst n (j0 xs))),(14,.cv (.lit (.int .i64 (n:Int)))),(15,.cv (.lit (.int .i64 (i64.wrap ((i:Int)+1)))))],[some (j4 (own (j0 zs)) (0+(i:Int).toNat*1) [.cv (.lit (.int .u32 (↑((xs.getD ((i:Int).toNat*1) 0+8589934592-ys.getD ((i:Int).toNat*1) 0-c)%4294967296):Int)))])]⟩ R):Ok P 56 (loopHead P 56 0) ⟨J6 41 [(1,.cv (.lst m (j0 ys))),(5,.sl 0 0 o 1),(6,.cv (.lit (.int .u32 (c:Int)))),(13,.cv (.lst n (j0 xs))),(14,.cv (.lit (.int .i64 (n:Int)))),(15,.cv (.lit (.int .i64 (i:Int))))],[some (own (j0 zs))]⟩ R:=
 z39 (keep:=[1,5,6,13,14,15]) (σ:=[0]) (.b 2 h1 (.c o1 (.l 5 o2 (.c (eqn 1) (.b 13 h2 (.c o5 (.l 17 o6 (.c (eqn 1) (.c (z2K (xs.getD ((i:Int).toNat*1) 0) (ys.getD ((i:Int).toNat*1) 0) c a d e) (.c o9 (.c o10 (.o 24 (.r (.tup [.lit (.int .u32 (↑((xs.getD ((i:Int).toNat*1) 0+8589934592-ys.getD ((i:Int).toNat*1) 0-c)%4294967296):Int)),.lit (.int .u32 ↑(if xs.getD ((i:Int).toNat*1) 0<ys.getD ((i:Int).toNat*1) 0+c then(1:Nat)else(0:Nat)))])) (.o 33 .stop .nil))))))))))))) (by kernel_rfl) rfl hn hR (.cons o11 .nil)
theorem zao(n m o c i:Nat)(xs ys zs:List Nat)(h1:decide ((i:Int)<n)=true)(h2:decide ((i:Int)<m)=false)(a:xs.getD ((i:Int).toNat*1) 0<4294967296)(d:0<4294967296)(e:c≤1)(o1:(0:Int)≤i∧(i:Int)<n)(o2:(j0 xs)[(i:Int).toNat*1]?=some (.lit (.int .u32 ↑(xs.getD ((i:Int).toNat*1) 0))))(o6:(0:Int)≤i∧(i:Int)<o)(o7:0+(i:Int).toNat*1+1≤(own (j0 zs)).length)(o8:CvL (j4 (own (j0 zs)) (0+(i:Int).toNat*1) [.cv (.lit (.int .u32 (↑((xs.getD ((i:Int).toNat*1) 0+8589934592-0-c)%4294967296):Int)))])){R:Goal}(hn:j7 R.n [0]=true)(hR:Ok P 56 (loopHead P 56 0) ⟨J6 41 [(1,.cv (.lst m (j0 ys))),(5,.sl 0 0 o 1),(6,.cv (.lit (.int .u32 ↑(if xs.getD ((i:Int).toNat*1) 0<nat_lit 0+c then(1:Nat)else(0:Nat))))),(13,.cv (.lst n (j0 xs))),(14,.cv (.lit (.int .i64 (n:Int)))),(15,.cv (.lit (.int .i64 (i64.wrap ((i:Int)+1)))))],[some (j4 (own (j0 zs)) (0+(i:Int).toNat*1) [.cv (.lit (.int .u32 (↑((xs.getD ((i:Int).toNat*1) 0+8589934592-0-c)%4294967296):Int)))])]⟩ R):Ok P 56 (loopHead P 56 0) ⟨J6 41 [(1,.cv (.lst m (j0 ys))),(5,.sl 0 0 o 1),(6,.cv (.lit (.int .u32 (c:Int)))),(13,.cv (.lst n (j0 xs))),(14,.cv (.lit (.int .i64 (n:Int)))),(15,.cv (.lit (.int .i64 (i:Int))))],[some (own (j0 zs))]⟩ R:=
 z39 (keep:=[1,5,6,13,14,15]) (σ:=[0]) (.b 2 h1 (.c o1 (.l 5 o2 (.c (eqn 1) (.b 13 h2 (.c (z2K (xs.getD ((i:Int).toNat*1) 0) 0 c a d e) (.c o6 (.c o7 (.o 19 (.r (.tup [.lit (.int .u32 (↑((xs.getD ((i:Int).toNat*1) 0+8589934592-0-c)%4294967296):Int)),.lit (.int .u32 ↑(if xs.getD ((i:Int).toNat*1) 0<nat_lit 0+c then(1:Nat)else(0:Nat)))])) (.o 28 .stop .nil)))))))))) (by kernel_rfl) rfl hn hR (.cons o8 .nil)
theorem zal(n m o c i:Nat)(xs ys zs:List Nat)(h1:decide ((i:Int)<n)=false)(a:o=zs.length)(d:Dig 4294967296 zs)(e:zs.length<2^62)(o2:List.take (o*1) (List.drop 0 (own (j0 zs)))=List.map MV.cv (j0 zs)){R:Goal}(hR:R.c (.lst (dig 4294967296 (val 4294967296 zs)).length (j0 (dig 4294967296 (val 4294967296 zs))))):Ok P 56 (loopHead P 56 0) ⟨J6 41 [(1,.cv (.lst m (j0 ys))),(5,.sl 0 0 o 1),(6,.cv (.lit (.int .u32 (c:Int)))),(13,.cv (.lst n (j0 xs))),(14,.cv (.lit (.int .i64 (n:Int)))),(15,.cv (.lit (.int .i64 (i:Int))))],[some (own (j0 zs))]⟩ R:=
 okT (.b 2 h1 (.rs 4 [j0 zs] (X6 o zs a d e) (.c o2 .nil))) (by kernel_rfl) hR
theorem z8V(n o d c:Nat)(i:Int)(xs zs:List Nat)(h1:decide (i≥0)=true)(a:c<d)(e:xs.getD (i.toNat*1) 0<4294967296)(f:d<4294967296)(o1:(0:Int)≤i∧i<(n:Int))(o2:(j0 xs)[i.toNat*1]?=some (.lit (.int .u32 ↑(xs.getD (i.toNat*1) 0))))(o5:(0:Int)≤i∧i<(o:Int))(o6:0+i.toNat*1+1≤(own (j0 zs)).length)(o7:CvL (j4 (own (j0 zs)) (0+i.toNat*1) [.cv (.lit (.int .u32 ↑((c*4294967296+xs.getD (i.toNat*1) 0)/d)))])){R:Goal}(hn:j7 R.n [0]=true)(hR:Ok P 82 (loopHead P 82 0) ⟨J6 35 [(0,.cv (.lst n (j0 xs))),(1,.cv (.lit (.int .u32 (d:Int)))),(6,.sl 0 0 o 1),(7,.cv (.lit (.int .u32 ↑((c*4294967296+xs.getD (i.toNat*1) 0)%d)))),(8,.cv (.lit (.int .i64 (i64.wrap (i-1)))))],[some (j4 (own (j0 zs)) (0+i.toNat*1) [.cv (.lit (.int .u32 ↑((c*4294967296+xs.getD (i.toNat*1) 0)/d)))])]⟩ R):Ok P 82 (loopHead P 82 0) ⟨J6 35 [(0,.cv (.lst n (j0 xs))),(1,.cv (.lit (.int .u32 (d:Int)))),(6,.sl 0 0 o 1),(7,.cv (.lit (.int .u32 (c:Int)))),(8,.cv (.lit (.int .i64 i)))],[some (own (j0 zs))]⟩ R:=
 z39 (keep:=[0,1,6,7,8]) (σ:=[0]) (.b 3 h1 (.c o1 (.l 10 o2 (.c (eqn 1) (.c (z7K c (xs.getD (i.toNat*1) 0) d a e f) (.c o5 (.c o6 (.o 12 (.r (.tup [.lit (.int .u32 ↑((c*4294967296+xs.getD (i.toNat*1) 0)/d)),.lit (.int .u32 ↑((c*4294967296+xs.getD (i.toNat*1) 0)%d))])) (.o 22 .stop .nil))))))))) (by kernel_rfl) rfl hn hR (.cons o7 .nil)
theorem z9B(n o d c:Nat)(i:Int)(xs zs:List Nat)(h1:decide (i≥0)=false)(a:o=zs.length)(e:Dig 4294967296 zs)(f:zs.length<2^62)(o2:List.take (o*1) (List.drop 0 (own (j0 zs)))=List.map MV.cv (j0 zs)){R:Goal}(hR:R.c (.tup [.lst (dig 4294967296 (val 4294967296 zs)).length (j0 (dig 4294967296 (val 4294967296 zs))),.lit (.int .u32 (c:Int))])):Ok P 82 (loopHead P 82 0) ⟨J6 35 [(0,.cv (.lst n (j0 xs))),(1,.cv (.lit (.int .u32 (d:Int)))),(6,.sl 0 0 o 1),(7,.cv (.lit (.int .u32 (c:Int)))),(8,.cv (.lit (.int .i64 i)))],[some (own (j0 zs))]⟩ R:=
 okT (.b 3 h1 (.rs 5 [j0 zs] (X6 o zs a e f) (.c o2 .nil))) (by kernel_rfl) hR
theorem z7G(n:Nat)(i:Int)(v:Nat)(xs:List Nat)(h1:decide (i≥0)=true)(o2:(0:Int)≤i∧i<(n:Int))(o3:(j0 xs)[i.toNat*1]?=some (.lit (.int .u32 ↑(xs.getD (i.toNat*1) 0)))){R:Goal}(hn:j7 R.n []=true)(hR:Ok P 76 (loopHead P 76 0) ⟨J6 21 [(0,.cv (.lst n (j0 xs))),(3,.cv (.lit (.int .u64 (Y2 BinOp.or u64 (u64.wrap ((v:Int)*4294967296)) (u64.wrap (↑(xs.getD (i.toNat*1) 0):Int)))))),(4,.cv (.lit (.int .i64 (i64.wrap (i-1)))))],[]⟩ R):Ok P 76 (loopHead P 76 0) ⟨J6 21 [(0,.cv (.lst n (j0 xs))),(3,.cv (.lit (.int .u64 (v:Int)))),(4,.cv (.lit (.int .i64 i)))],[]⟩ R:=
 z39 (keep:=[0,3,4]) (σ:=[]) (.b 3 h1 (.c (nn 32) (.c o2 (.l 9 o3 (.c (eqn 1) (.o 16 .stop .nil)))))) (by kernel_rfl) rfl hn hR .nil
theorem z80(n:Nat)(i:Int)(v:Nat)(xs:List Nat)(h1:decide (i≥0)=false){R:Goal}(hR:R.c (.lit (.int .u64 (v:Int)))):Ok P 76 (loopHead P 76 0) ⟨J6 21 [(0,.cv (.lst n (j0 xs))),(3,.cv (.lit (.int .u64 (v:Int)))),(4,.cv (.lit (.int .i64 i)))],[]⟩ R:=
 okT (.b 3 h1 .nil) (by kernel_rfl) hR
end Go.Fw
