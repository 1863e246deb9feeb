/- A part of the proof that the law returns true for every input: an executor for the model's code, and what functions of the program compute. -/
import Derived.Test.YtcafjpldfnegiaaGreatDoorB11
import Derived.Test.YtcafjpldfnegiaaGreatDoorB15
import Derived.Test.YtcafjpldfnegiaaGreatDoorB16
import Derived.KernelRfl
open Go IntKind
namespace Go.Fw
set_option maxRecDepth 100000
theorem zjz(s:ByteArray)(c:Int){R:CV→Prop}(hR:Ok P 271 (loopHead P 271 0) ⟨J3 17 [(0,.cv (.lit (.string s))),(1,.cv (.lit (.int .u8 c)))],[]⟩ (.of R)):W5 P 271 [.lit (.string s),.lit (.int .u8 c)] R:=
 Y2 (keep:=[0,1]) (σ:=[]) (.o 1 .stop .nil) (by kernel_rfl) rfl hR .nil
theorem zhr(s:ByteArray)(c:Int)(h1:decide ((↑s.size:Int)>0)=true)(h2:((↑(s.data.getD 0 (OfNat.ofNat 0)).toNat:Int)==c)=true)(o1:(0:Int)≤0∧(0:Int)<(↑s.size:Int))(o3:(0:Int)≤1∧(1:Int)≤(↑s.size:Int)∧(↑s.size:Int)≤(↑s.size:Int)){R:Goal}(hn:j9 R.n []=true)(hR:Ok P 271 (loopHead P 271 0) ⟨J3 17 [(0,.cv (.lit (.string (s.extract 1 (↑s.size:Int).toNat)))),(1,.cv (.lit (.int .u8 c)))],[]⟩ R):Ok P 271 (loopHead P 271 0) ⟨.cv (.lit (.string s)):: .cv (.lit (.int .u8 c))::z94 15,[]⟩ R:=
 z16 (keep:=[0,1]) (σ:=[]) (.b 4 h1 (.c o1 (.b 10 h2 (.c o3 (.o 14 .stop .nil))))) (by kernel_rfl) rfl hn hR .nil
theorem zi9(s:ByteArray)(c:Int)(h1:decide ((↑s.size:Int)>0)=true)(h2:((↑(s.data.getD 0 (OfNat.ofNat 0)).toNat:Int)==c)=false)(o1:(0:Int)≤0∧(0:Int)<(↑s.size:Int)){R:Goal}(hR:R.c (.lit (.string s))):Ok P 271 (loopHead P 271 0) ⟨.cv (.lit (.string s)):: .cv (.lit (.int .u8 c))::z94 15,[]⟩ R:=
 okT (.b 4 h1 (.c o1 (.b 10 h2 .nil))) (by kernel_rfl) hR
theorem zhz(s:ByteArray)(c:Int)(h1:decide ((↑s.size:Int)>0)=false){R:Goal}(hR:R.c (.lit (.string s))):Ok P 271 (loopHead P 271 0) ⟨.cv (.lit (.string s)):: .cv (.lit (.int .u8 c))::z94 15,[]⟩ R:=
 okT (.b 4 h1 .nil) (by kernel_rfl) hR
abbrev X2(s:ByteArray):CV:= .lit (.string s)
theorem zfo {R : Goal} (hn : j9 R.n [] = true) : ∀ (k : Nat) (ls : List Nat), ls.length = k → Dig 256 ls → R.c (X2 (z1g (tz ls))) →
    Ok P 271 (loopHead P 271 0) ⟨.cv (X2 (z1g ls)):: .cv (.lit (.int .u8 0))::z94 15,[]⟩ R:=by
 intro k
 induction k with
 |zero=>
  intro ls hl _ hR
  have:ls=[]:=List.length_eq_zero_iff.1 hl
  subst this
  exact zhz _ 0 (by decide) hR
 |succ k ih=>
  intro ls hl hd hR
  have hne:ls≠[]:=by intro e;subst e;simp at hl
  have hcon:=X9 hne
  rw[hl,Nat.add_sub_cancel]at hcon
  have hsz:(z1g ls).size=k+1:=by rw[z5M,hl]
  have hx:=hd.get (by decide) k
  have hd':=hd.take k
  have hlt:(ls.take k).length=k:=by simp;omega
  generalize ls.take k=ms at*
  generalize ls.getD k 0=x at*
  subst hcon
  have hfirst:((z1g (ms++[x])).data.getD 0 0).toNat=x:=by rw[z2I];simp;omega
  by_cases h0:x=0
  · refine zhr _ 0 (by rw[hsz];simp) (by rw[show(OfNat.ofNat 0:UInt8)=0 from rfl,hfirst,h0];rfl) (by omega) (by omega) hn ?_
    have:=ih ms hlt hd' (by rw[h0,Y1]at hR;exact hR)
    rw[hsz,show((k+1:Nat):Int).toNat=ms.length+1 by omega,z6z]
    exact this
  · refine zi9 _ 0 (by rw[hsz];simp) (by rw[show(OfNat.ofNat 0:UInt8)=0 from rfl,hfirst];simpa using h0) (by omega) ?_
    rw[z0F h0]at hR
    exact hR
theorem zee(s:ByteArray):PCall P 271 [X2 s,.lit (.int .u8 0)] (X2 (bytesOf (J5 s))):=by
 refine zjz s 0 ?_
 have:=zfo (R:= .of (fun x=>x=X2 (bytesOf (J5 s)))) rfl _ (z21 s) rfl (z1d s) (by rw[zc9];rfl)
 rw[z3N]at this
 exact this
theorem znW(s:ByteArray)(h1:(s.toList==[])=true):PCall P 266 [.lit (.string s),.lit (.string {data:= #[(0:UInt8)]})] (.lit (.string s)):=
 j5 (.b 3 h1 .nil) (by kernel_rfl)
theorem znQ(s:ByteArray)(h1:(s.toList==[])=false):PCall P 266 [.lit (.string s),.lit (.string {data:= #[(0:UInt8)]})] (.lit (.string (bytesOf (J5 s)))):=
 j5 (.b 3 h1 (.c (bq 0 1) (.c (bq 0 1) (.r 20 (zee s) .nil)))) (by kernel_rfl)
theorem zfH(b:Bool)(s:ByteArray)(h1:(s.toList==[])=true):PCall P 214 [.agg [.lit (.bool b),.lit (.string s)]] (.lit (.bool !b)):=
 j5 (.b 5 h1 .nil) (by kernel_rfl)
theorem zeg(b:Bool)(s:ByteArray)(h1:(s.toList==[])=false)(o1:(0:Int)≤0∧(0:Int)<(↑s.size:Int)):PCall P 214 [.agg [.lit (.bool b),.lit (.string s)]] (.lit (.bool ((↑(s.data.getD 0 (OfNat.ofNat 0)).toNat:Int) != 0))):=
 j5 (.b 5 h1 (.c o1 .nil)) (by kernel_rfl)
theorem zlZ(s:ByteArray)(o1:(0:Int)≤i64.wrap ((i64.wrap ((↑s.size:Int)+3)).tdiv 4)∧i64.wrap ((i64.wrap ((↑s.size:Int)+3)).tdiv 4)≤i64.wrap ((i64.wrap ((↑s.size:Int)+3)).tdiv 4)∧(4:Int)*i64.wrap ((i64.wrap ((↑s.size:Int)+3)).tdiv 4)≤140737488355328∧i64.wrap ((i64.wrap ((↑s.size:Int)+3)).tdiv 4)≤4611686018427387904∧1=1)(o2:CvL (List.replicate ((i64.wrap ((i64.wrap ((↑s.size:Int)+3)).tdiv 4)).toNat*1) (.cv (.lit (.int .u32 0))))){R:CV→Prop}(hR:Ok P 238 (loopHead P 238 0) ⟨J3 39 [(0,.cv (.lit (.string s))),(3,.sl 0 0 (i64.wrap ((i64.wrap ((↑s.size:Int)+3)).tdiv 4)).toNat 1),(12,.cv (.lit (.int .i64 (↑s.size:Int)))),(13,.cv (.lit (.int .i64 0)))],[some (List.replicate ((i64.wrap ((i64.wrap ((↑s.size:Int)+3)).tdiv 4)).toNat*1) (.cv (.lit (.int .u32 0))))]⟩ (.of R)):W5 P 238 [.lit (.string s)] R:=
 Y2 (keep:=[0,3,12,13]) (σ:=[0]) (.c (nz 4) (.c o1 (.o 10 .stop .nil))) (by kernel_rfl) rfl hR (.cons o2 .nil)
theorem zms(s:ByteArray)(m i:Nat)(xs:List Nat)(h1:(decide ((i:Int)<(↑s.size:Int)))=true)(o2:(0:Int)≤i64.wrap ((i:Int).tdiv 4)∧i64.wrap ((i:Int).tdiv 4)<(m:Int))(o3:(own (j6 xs))[0+(i64.wrap ((i:Int).tdiv 4)).toNat*1]?=some (.cv (.lit (.int .u32 (↑(xs.getD (0+(i64.wrap ((i:Int).tdiv 4)).toNat*1) 0):Int)))))(o5:(0:Int)≤i64.wrap (i64.wrap ((↑s.size:Int)-1)-(i:Int))∧i64.wrap (i64.wrap ((↑s.size:Int)-1)-(i:Int))<(↑s.size:Int))(o7:(0:Int)≤i64.wrap ((8:Int)*(i:Int).tmod 4))(o8:(0:Int)≤i64.wrap ((i:Int).tdiv 4)∧i64.wrap ((i:Int).tdiv 4)<(m:Int))(o9:0+(i64.wrap ((i:Int).tdiv 4)).toNat*1+1≤(own (j6 xs)).length)(o10:CvL (j4 (own (j6 xs)) (0+(i64.wrap ((i:Int).tdiv 4)).toNat*1) [.cv (.lit (.int .u32 (X5 BinOp.or u32 (↑(xs.getD (0+(i64.wrap ((i:Int).tdiv 4)).toNat*1) 0):Int) (u32.wrap (u32.wrap (↑(s.data.getD (i64.wrap (i64.wrap ((↑s.size:Int)-1)-(i:Int))).toNat (OfNat.ofNat 0)).toNat:Int)*2^min (i64.wrap ((8:Int)*(i:Int).tmod 4)).toNat 32)))))])){R:Goal}(hn:j9 R.n [0]=true)(hR:Ok P 238 (loopHead P 238 0) ⟨J3 39 [(0,.cv (.lit (.string s))),(3,.sl 0 0 m 1),(12,.cv (.lit (.int .i64 (↑s.size:Int)))),(13,.cv (.lit (.int .i64 (i64.wrap ((i:Int)+1)))))],[some (j4 (own (j6 xs)) (0+(i64.wrap ((i:Int).tdiv 4)).toNat*1) [.cv (.lit (.int .u32 (X5 BinOp.or u32 (↑(xs.getD (0+(i64.wrap ((i:Int).tdiv 4)).toNat*1) 0):Int) (u32.wrap (u32.wrap (↑(s.data.getD (i64.wrap (i64.wrap ((↑s.size:Int)-1)-(i:Int))).toNat (OfNat.ofNat 0)).toNat:Int)*2^min (i64.wrap ((8:Int)*(i:Int).tmod 4)).toNat 32)))))])]⟩ R):Ok P 238 (loopHead P 238 0) ⟨.cv (.lit (.string s))::MV.unk::MV.unk:: .sl 0 0 m 1::(z94 8++ .cv (.lit (.int .i64 (↑s.size:Int))):: .cv (.lit (.int .i64 (i:Int)))::z94 25),[some (own (j6 xs))]⟩ R:=
 z16 (keep:=[0,3,12,13]) (σ:=[0]) (.b 2 h1 (.c (nz 4) (.c o2 (.e 15 o3 (.c (eqn 1) (.c o5 (.c (nz 4) (.c o7 (.c o8 (.c o9 (.o 29 .stop .nil))))))))))) (by kernel_rfl) rfl hn hR (.cons o10 .nil)
theorem zln(s:ByteArray)(m i:Nat)(xs:List Nat)(h1:(decide ((i:Int)<(↑s.size:Int)))=false)(a:m=xs.length)(d:Dig 4294967296 xs)(e:xs.length<2^62)(o2:List.take (m*1) (List.drop 0 (own (j6 xs)))=List.map MV.cv (j6 xs)){R:Goal}(hR:R.c (.lst (dig 4294967296 (val 4294967296 xs)).length (j6 (dig 4294967296 (val 4294967296 xs))))):Ok P 238 (loopHead P 238 0) ⟨.cv (.lit (.string s))::MV.unk::MV.unk:: .sl 0 0 m 1::(z94 8++ .cv (.lit (.int .i64 (↑s.size:Int))):: .cv (.lit (.int .i64 (i:Int)))::z94 25),[some (own (j6 xs))]⟩ R:=
 okT (.b 2 h1 (.rs 4 [j6 xs] (z0a m xs a d e) (.c o2 .nil))) (by kernel_rfl) hR
theorem zhp(s:ByteArray):PCall P 266 [X2 s,X2 ⟨#[0]⟩] (X2 (bytesOf (J5 s))):=by
 by_cases h:s.size=0
 · have h1:z21 s=[]:=List.length_eq_zero_iff.1 (by rw[X6,h])
   have h2:s=⟨#[]⟩:=by rw[←z3N s,h1];rfl
   refine(znW s (by rw[X3];simpa using h)).eq ?_
   rw[J5,h1,h2];rfl
 · exact znQ s (by rw[X3];simpa using h)
def J1(neg:Bool)(mag:ByteArray):Bool:=if mag.size=0 then !neg else decide ((mag.data.getD 0 0).toNat≠0)
theorem Y4(b:Bool)(s:ByteArray):PCall P 214 [.agg [.lit (.bool b),X2 s]] (.lit (.bool (J1 b s))):=by
 by_cases h:s.size=0
 · refine(zfH b s (by rw[X3];simpa using h)).eq ?_
   simp[J1,h]
 · refine(zeg b s (by rw[X3];simpa using h) (by omega)).eq ?_
   rw[J1,if_neg h]
   congr 2
   rw[show(OfNat.ofNat 0:UInt8)=0 from rfl]
   generalize (s.data.getD 0 0).toNat=n
   by_cases hn:n=0
   · subst hn;rfl
   · have:(n:Int)≠0:=by omega
     simp[hn]
theorem zi7 {R : Goal} (hn : j9 R.n [0] = true) (s : ByteArray) (hs : s.size < 2 ^ 40) (hR : R.c (z07 (J5 s))) :
    ∀(k i:Nat),s.size-i=k→i≤s.size→
    Ok P 238 (loopHead P 238 0) ⟨.cv (.lit (.string s)):: .unk:: .unk:: .sl 0 0 ((s.size+3)/4) 1::(z94 8++ .cv (.lit (.int .i64 s.size)):: .cv (.lit (.int .i64 i))::z94 25),
     [some (own (j6 (Z1 B32 ((s.size+3)/4) (val 256 ((z21 s).take i)))))]⟩ R:=by
 intro k
 induction k with
 |zero=>
  intro i hk hi
  have:i=s.size:=by omega
  subst this
  have hv:val 256 ((z21 s).take s.size)=J5 s:=by rw[←X6,List.take_length];rfl
  rw[hv]
  have hlen:=j8 B32 ((s.size+3)/4) (J5 s)
  refine zln s _ s.size _ (by simp) hlen.symm (z0e (by decide) _ _) (by rw[hlen];omega) (z0D (by rw[J9,hlen])) ?_
  have:val 4294967296 (Z1 B32 ((s.size+3)/4) (J5 s))=J5 s:=by
   rw[show(4294967296:Nat)=B32 from rfl,z0n,Nat.mod_eq_of_lt]
   refine Nat.lt_of_lt_of_le (z0o s) ?_
   rw[show B32=256^4 from rfl,←Nat.pow_mul]
   exact Nat.pow_le_pow_right (by decide) (by omega)
  rw[this]
  exact hR
 |succ k ih=>
  intro i hk hi
  have hlt:i<s.size:=by omega
  have hlen:=j8 B32 ((s.size+3)/4) (val 256 ((z21 s).take i))
  have hbyte:=(z1d s).get (by decide) i
  have hget:=z6N s hlt
  have hv:=W9 (b:=256) (xs:=z21 s) (i:=i) (by rw[X6];exact hlt)
  have hvlt:val 256 ((z21 s).take i)<256^i:=by
   have:=z0s (by decide:0<256) _ ((z1d s).take i)
   rw[List.length_take,X6,Nat.min_eq_left (Nat.le_of_lt hlt)]at this
   exact this
  generalize (z21 s).getD i 0=d at*
  generalize val 256 ((z21 s).take i)=v at*
  generalize hm:(s.size+3)/4=m at*
  have hjm:i/4<m:=by omega
  have hdg:=X8 B32 m v (i/4) hjm
  have hpow:(256:Nat)^i=B32^(i/4)*256^(i%4):=by
   rw[show B32=256^4 from rfl,←Nat.pow_mul,←Nat.pow_add,Nat.div_add_mod]
  have hq:v/B32^(i/4)<256^(i%4):=by
   rw[Nat.div_lt_iff_lt_mul (Nat.pow_pos (by decide)),Nat.mul_comm,←hpow];exact hvlt
  have hp3:(256:Nat)^(i%4)≤16777216:=by
   rw[show(16777216:Nat)=256^3 from rfl];exact Nat.pow_le_pow_right (by decide) (by omega)
  have hqm:v/B32^(i/4)%B32=v/B32^(i/4):=Nat.mod_eq_of_lt (by simp only[B32]at*;omega)
  have hr:(256:Nat)^(i%4)=2^(8*(i%4)):=by rw[show(256:Nat)=2^8 from rfl,←Nat.pow_mul]
  have hdr:d*256^(i%4)+v/B32^(i/4)<B32:=by
   have:(d+1)*256^(i%4)≤256*256^(i%4):=Nat.mul_le_mul_right _ hbyte
   have h4:256*256^(i%4)≤B32:=by simp only[B32];omega
   rw[Nat.add_mul,Nat.one_mul]at this
   omega
  have e1:i64.wrap ((i:Int).tdiv 4)=((i/4:Nat):Int):=by rw[Int.tdiv_eq_ediv_of_nonneg (by omega),w64 (by omega)];omega
  have e2:i64.wrap (i64.wrap ((s.size:Int)-1)-(i:Int))=((s.size-1-i:Nat):Int):=by rw[w64 (n:=(s.size:Int)-1) (by omega),w64 (by omega)];omega
  have e3:i64.wrap (8*(i:Int).tmod 4)=((8*(i%4):Nat):Int):=by rw[Int.tmod_eq_emod_of_nonneg (by omega),w64 (by omega)];omega
  have e4:i64.wrap ((i:Int)+1)=((i+1:Nat):Int):=by rw[w64 (by omega)];omega
  have e5:(0:Nat)+((i/4:Nat):Int).toNat*1=i/4:=by omega
  have e6:min (((8*(i%4):Nat):Int)).toNat 32=8*(i%4):=by omega
  have e7:X5 BinOp.or u32 (((Z1 B32 m v).getD (i/4) 0:Nat):Int) (u32.wrap (u32.wrap (((s.data.getD (((s.size-1-i:Nat):Int)).toNat (OfNat.ofNat 0)).toNat:Nat):Int)*2^min (((8*(i%4):Nat):Int)).toNat 32))=((v/B32^(i/4)%B32+d*256^(i%4):Nat):Int):=by
   rw[e6,hdg,hqm,show(((s.size-1-i:Nat):Int)).toNat=s.size-1-i by omega,show(OfNat.ofNat 0:UInt8)=0 from rfl,←hget]
   have e8:u32.wrap (u32.wrap (d:Int)*2^(8*(i%4)))=((d*2^(8*(i%4)):Nat):Int):=by
    have h5:u32.wrap (d:Int)=d:=by rw[z6V];omega
    rw[h5]
    have h6:(d:Int)*2^(8*(i%4))=((d*2^(8*(i%4)):Nat):Int):=by norm_cast
    rw[h6,z6V]
    rw[←hr]at*
    simp only[B32]at*;omega
   have hq2:v/B32^(i/4)<2^(8*(i%4)):=by rw[←hr];exact hq
   rw[e8,←hr,zcZ (by simp only[B32]at*;omega) (by simp only[B32]at*;omega),Nat.or_comm,hr,z1V _ hq2,Nat.add_comm]
  refine zms s m i _ (by simp;omega) (by rw[e1];omega) ?_ (by rw[e2];omega) (by rw[e3];omega) (by rw[e1];omega) (by rw[e1,e5,J4,J9,hlen];omega) ?_ hn ?_
  · rw[e1,e5];exact X1 (z6o (by rw[hlen];exact hjm))
  · rw[e1,e2,e3,e5,e7,Q1 (by rw[hlen];exact hjm)];exact J0 _
  · rw[e1,e2,e3,e4,e5,e7,Q1 (by rw[hlen];exact hjm),z1c (by decide) m v _ _ hjm (by rw[hqm];omega)]
    have h7:v+d*256^(i%4)*B32^(i/4)=v+256^i*d:=by rw[hpow,Nat.mul_assoc,Nat.mul_comm,Nat.mul_comm (256^(i%4))]
    rw[h7,←hv]
    exact ih (i+1) (by omega) (by omega)
theorem z0H(s:ByteArray)(hs:s.size<2^40):PCall P 238 [X2 s] (z07 (J5 s)):=by
 have e1:i64.wrap ((i64.wrap ((s.size:Int)+3)).tdiv 4)=(((s.size+3)/4:Nat):Int):=by
  rw[w64 (n:=(s.size:Int)+3) (by omega),Int.tdiv_eq_ediv_of_nonneg (by omega),w64 (by omega)];omega
 refine zlZ s (by rw[e1];omega) (by rw[e1,V4];exact J0 _) ?_
 rw[e1,V4]
 have:=zi7 (R:= .of (fun x=>x=z07 (J5 s))) rfl s hs rfl _ 0 rfl (Nat.zero_le _)
 rw[List.take_zero,show val 256 []=0 from rfl,z1r]at this
 rw[show(((s.size+3)/4:Nat):Int).toNat=(s.size+3)/4 by omega,Nat.mul_one]
 exact this
theorem zgE(n:Nat)(xs:List Nat)(o0:(0:Int)≤0∧(0:Int)≤i64.wrap ((4:Int)*n)∧(1:Int)*i64.wrap ((4:Int)*n)≤140737488355328∧i64.wrap ((4:Int)*n)≤4611686018427387904∧1=1)(o1:CvL (List.replicate ((i64.wrap ((4:Int)*n)).toNat*1) (.cv (.lit (.int .u8 0))))){R:CV→Prop}(hR:Ok P 256 (loopHead P 256 0) ⟨J3 45 [(0,.cv (.lst n (j6 xs))),(3,.sl 0 0 0 1),(4,.cv (.lit (.int .i64 (i64.wrap ((n:Int)-1)))))],[some (List.replicate ((i64.wrap ((4:Int)*n)).toNat*1) (.cv (.lit (.int .u8 0))))]⟩ (.of R)):W5 P 256 [.lst n (j6 xs)] R:=
 Y2 (keep:=[0,3,4]) (σ:=[0]) (.c o0 (.o 10 .stop .nil)) (by kernel_rfl) rfl hR (.cons o1 .nil)
theorem zjE(n m:Nat)(xs ys:List Nat)(h1:((n:Int) != (m:Int))=true):PCall P 241 [.lst n (j6 xs),.lst m (j6 ys)] (.lit (.int .i64 (i64.wrap ((n:Int)-m)))):=
 j5 (.b 6 h1 .nil) (by kernel_rfl)
theorem zjp(n m:Nat)(xs ys:List Nat)(h1:((n:Int) != (m:Int))=false){R:CV→Prop}(hR:Ok P 241 (loopHead P 241 0) ⟨J3 43 [(0,.cv (.lst n (j6 xs))),(1,.cv (.lst m (j6 ys))),(5,.cv (.lit (.int .i64 (i64.wrap ((n:Int)-1)))))],[]⟩ (.of R)):W5 P 241 [.lst n (j6 xs),.lst m (j6 ys)] R:=
 Y2 (keep:=[0,1,5]) (σ:=[]) (.b 6 h1 (.o 11 .stop .nil)) (by kernel_rfl) rfl hR .nil
theorem zgA(n m:Nat)(xs ys:List Nat)(h1:decide ((n:Int)<m)=true)(o1:(0:Int)≤i64.wrap ((m:Int)+1)∧i64.wrap ((m:Int)+1)≤i64.wrap ((m:Int)+1)∧(4:Int)*i64.wrap ((m:Int)+1)≤140737488355328∧i64.wrap ((m:Int)+1)≤4611686018427387904∧1=1)(o2:CvL (List.replicate ((i64.wrap ((m:Int)+1)).toNat*1) (.cv (.lit (.int .u32 0))))){R:CV→Prop}(hR:Ok P 239 (loopHead P 239 0) ⟨J3 54 [(0,.cv (.lst m (j6 ys))),(1,.cv (.lst n (j6 xs))),(5,.sl 0 0 (i64.wrap ((m:Int)+1)).toNat 1),(6,.cv (.lit (.int .u32 0))),(21,.cv (.lst m (j6 ys))),(22,.cv (.lit (.int .i64 (m:Int)))),(23,.cv (.lit (.int .i64 0)))],[some (List.replicate ((i64.wrap ((m:Int)+1)).toNat*1) (.cv (.lit (.int .u32 0))))]⟩ (.of R)):W5 P 239 [.lst n (j6 xs),.lst m (j6 ys)] R:=
 Y2 (keep:=[0,1,5,6,21,22,23]) (σ:=[0]) (.b 6 h1 (.c o1 (.o 20 .stop .nil))) (by kernel_rfl) rfl hR (.cons o2 .nil)
theorem zhA(n m:Nat)(xs ys:List Nat)(h1:decide ((n:Int)<m)=false)(o1:(0:Int)≤i64.wrap ((n:Int)+1)∧i64.wrap ((n:Int)+1)≤i64.wrap ((n:Int)+1)∧(4:Int)*i64.wrap ((n:Int)+1)≤140737488355328∧i64.wrap ((n:Int)+1)≤4611686018427387904∧1=1)(o2:CvL (List.replicate ((i64.wrap ((n:Int)+1)).toNat*1) (.cv (.lit (.int .u32 0))))){R:CV→Prop}(hR:Ok P 239 (loopHead P 239 0) ⟨J3 54 [(0,.cv (.lst n (j6 xs))),(1,.cv (.lst m (j6 ys))),(5,.sl 0 0 (i64.wrap ((n:Int)+1)).toNat 1),(6,.cv (.lit (.int .u32 0))),(21,.cv (.lst n (j6 xs))),(22,.cv (.lit (.int .i64 (n:Int)))),(23,.cv (.lit (.int .i64 0)))],[some (List.replicate ((i64.wrap ((n:Int)+1)).toNat*1) (.cv (.lit (.int .u32 0))))]⟩ (.of R)):W5 P 239 [.lst n (j6 xs),.lst m (j6 ys)] R:=
 Y2 (keep:=[0,1,5,6,21,22,23]) (σ:=[0]) (.b 6 h1 (.c o1 (.o 16 .stop .nil))) (by kernel_rfl) rfl hR (.cons o2 .nil)
theorem zdO(n m:Nat)(xs ys:List Nat)(o0:(0:Int)≤n∧(n:Int)≤n∧(4:Int)*n≤140737488355328∧(n:Int)≤4611686018427387904∧1=1)(o1:CvL (List.replicate ((n:Int).toNat*1) (.cv (.lit (.int .u32 0))))){R:CV→Prop}(hR:Ok P 242 (loopHead P 242 0) ⟨J3 41 [(1,.cv (.lst m (j6 ys))),(5,.sl 0 0 (n:Int).toNat 1),(6,.cv (.lit (.int .u32 0))),(13,.cv (.lst n (j6 xs))),(14,.cv (.lit (.int .i64 (n:Int)))),(15,.cv (.lit (.int .i64 0)))],[some (List.replicate ((n:Int).toNat*1) (.cv (.lit (.int .u32 0))))]⟩ (.of R)):W5 P 242 [.lst n (j6 xs),.lst m (j6 ys)] R:=
 Y2 (keep:=[1,5,6,13,14,15]) (σ:=[0]) (.c o0 (.o 9 .stop .nil)) (by kernel_rfl) rfl hR (.cons o1 .nil)
theorem zbq(n:Nat)(d:Int)(xs:List Nat)(o0:(0:Int)≤n∧(n:Int)≤n∧(4:Int)*n≤140737488355328∧(n:Int)≤4611686018427387904∧1=1)(o1:CvL (List.replicate ((n:Int).toNat*1) (.cv (.lit (.int .u32 0))))){R:CV→Prop}(hR:Ok P 261 (loopHead P 261 0) ⟨J3 35 [(0,.cv (.lst n (j6 xs))),(1,.cv (.lit (.int .u32 d))),(6,.sl 0 0 (n:Int).toNat 1),(7,.cv (.lit (.int .u32 0))),(8,.cv (.lit (.int .i64 (i64.wrap ((n:Int)-1)))))],[some (List.replicate ((n:Int).toNat*1) (.cv (.lit (.int .u32 0))))]⟩ (.of R)):W5 P 261 [.lst n (j6 xs),.lit (.int .u32 d)] R:=
 Y2 (keep:=[0,1,6,7,8]) (σ:=[0]) (.c o0 (.o 11 .stop .nil)) (by kernel_rfl) rfl hR (.cons o1 .nil)
theorem zax(n:Nat)(xs:List Nat){R:CV→Prop}(hR:Ok P 259 (loopHead P 259 0) ⟨J3 21 [(0,.cv (.lst n (j6 xs))),(3,.cv (.lit (.int .u64 0))),(4,.cv (.lit (.int .i64 (i64.wrap ((n:Int)-1)))))],[]⟩ (.of R)):W5 P 259 [.lst n (j6 xs)] R:=
 Y2 (keep:=[0,3,4]) (σ:=[]) (.o 6 .stop .nil) (by kernel_rfl) rfl hR .nil
theorem zgn(n m:Nat)(xs ys:List Nat)(o0:(0:Int)≤i64.wrap (i64.wrap ((n:Int)+m)+1)∧i64.wrap (i64.wrap ((n:Int)+m)+1)≤i64.wrap (i64.wrap ((n:Int)+m)+1)∧(4:Int)*i64.wrap (i64.wrap ((n:Int)+m)+1)≤140737488355328∧i64.wrap (i64.wrap ((n:Int)+m)+1)≤4611686018427387904∧1=1)(o1:CvL (List.replicate ((i64.wrap (i64.wrap ((n:Int)+m)+1)).toNat*1) (.cv (.lit (.int .u32 0))))){R:CV→Prop}(hR:Ok P 243 (loopHead P 243 0) ⟨J3 45 [(1,.cv (.lst m (j6 ys))),(5,.sl 0 0 (i64.wrap (i64.wrap ((n:Int)+m)+1)).toNat 1),(6,MV.fn 258 [.sl 0 0 (i64.wrap (i64.wrap ((n:Int)+m)+1)).toNat 1] []),(20,.cv (.lst n (j6 xs))),(21,.cv (.lit (.int .i64 (n:Int)))),(22,.cv (.lit (.int .i64 0)))],[some (List.replicate ((i64.wrap (i64.wrap ((n:Int)+m)+1)).toNat*1) (.cv (.lit (.int .u32 0))))]⟩ (.of R)):W5 P 243 [.lst n (j6 xs),.lst m (j6 ys)] R:=
 Y2 (keep:=[1,5,6,20,21,22]) (σ:=[0]) (.c o0 (.o 15 .stop .nil)) (by kernel_rfl) rfl hR (.cons o1 .nil)
theorem ziC(n l:Nat)(i:Int)(xs bs:List Nat)(h1:decide (i≥0)=true)(o1:(0:Int)≤i∧i<(n:Int))(o2:(j6 xs)[i.toNat*1]?=some (.lit (.int .u32 ↑(xs.getD (i.toNat*1) 0))))(o5:(0:Int)≤i∧i<(n:Int))(o6:(j6 xs)[i.toNat*1]?=some (.lit (.int .u32 ↑(xs.getD (i.toNat*1) 0))))(o9:(0:Int)≤i∧i<(n:Int))(o10:(j6 xs)[i.toNat*1]?=some (.lit (.int .u32 ↑(xs.getD (i.toNat*1) 0))))(o13:(0:Int)≤i∧i<(n:Int))(o14:(j6 xs)[i.toNat*1]?=some (.lit (.int .u32 ↑(xs.getD (i.toNat*1) 0))))(o16:(l+4)*1≤1099511627776)(o17:l+4≤1099511627776)(o18:(own (u8s bs)).length=l*1)(o19:z98 [.cv (.lit (.int .u8 (u8.wrap ((↑(xs.getD (i.toNat*1) 0):Int).fdiv 16777216)))),.cv (.lit (.int .u8 (u8.wrap ((↑(xs.getD (i.toNat*1) 0):Int).fdiv 65536)))),.cv (.lit (.int .u8 (u8.wrap ((↑(xs.getD (i.toNat*1) 0):Int).fdiv 256)))),.cv (.lit (.int .u8 (u8.wrap (↑(xs.getD (i.toNat*1) 0):Int))))])(o21:CvL (own (u8s bs)++[.cv (.lit (.int .u8 (u8.wrap ((↑(xs.getD (i.toNat*1) 0):Int).fdiv 16777216)))),.cv (.lit (.int .u8 (u8.wrap ((↑(xs.getD (i.toNat*1) 0):Int).fdiv 65536)))),.cv (.lit (.int .u8 (u8.wrap ((↑(xs.getD (i.toNat*1) 0):Int).fdiv 256)))),.cv (.lit (.int .u8 (u8.wrap (↑(xs.getD (i.toNat*1) 0):Int))))])){R:Goal}(hn:j9 R.n [2]=true)(hR:Ok P 256 (loopHead P 256 0) ⟨J3 45 [(0,.cv (.lst n (j6 xs))),(3,.sl 0 0 (l+4) 1),(4,.cv (.lit (.int .i64 (i64.wrap (i-1)))))],[some (own (u8s bs)++[.cv (.lit (.int .u8 (u8.wrap ((↑(xs.getD (i.toNat*1) 0):Int).fdiv 16777216)))),.cv (.lit (.int .u8 (u8.wrap ((↑(xs.getD (i.toNat*1) 0):Int).fdiv 65536)))),.cv (.lit (.int .u8 (u8.wrap ((↑(xs.getD (i.toNat*1) 0):Int).fdiv 256)))),.cv (.lit (.int .u8 (u8.wrap (↑(xs.getD (i.toNat*1) 0):Int))))])]⟩ R):Ok P 256 (loopHead P 256 0) ⟨J3 45 [(0,.cv (.lst n (j6 xs))),(3,.sl 0 0 l 1),(4,.cv (.lit (.int .i64 i)))],[some (own (u8s bs))]⟩ R:=
 z16 (keep:=[0,3,4]) (σ:=[2]) (.b 3 h1 (.c o1 (.c o2 (.c (eqn 1) (.c (nn 24) (.c o5 (.c o6 (.c (eqn 1) (.c (nn 16) (.c o9 (.c o10 (.c (eqn 1) (.c (nn 8) (.c o13 (.l 8 o14 (.c (eqn 1) (.c o16 (.c o17 (.c o18 (.c o19 (.c (eqn 4) (.o 14 (.r (.lit (.int .u32 ↑(xs.getD (i.toNat*1) 0)))) (.o 20 (.r (.lit (.int .u32 ↑(xs.getD (i.toNat*1) 0)))) (.o 26 (.r (.lit (.int .u32 ↑(xs.getD (i.toNat*1) 0)))) (.o 34 .stop .nil))))))))))))))))))))))))) (by kernel_rfl) rfl hn hR (.cons o21 .nil)
theorem zj3(n l:Nat)(i:Int)(xs bs:List Nat)(h1:decide (i≥0)=false)(o1:List.take l (List.drop 0 (own (u8s bs)))=List.map (fun b=>z22 u8 (↑b.toNat:Int)) (List.map UInt8.ofNat bs))(o2:(z1D bs).size=l){R:Goal}(hR:R.c (.lit (.string (bytesOf (J5 (z1D bs)))))):Ok P 256 (loopHead P 256 0) ⟨J3 45 [(0,.cv (.lst n (j6 xs))),(3,.sl 0 0 l 1),(4,.cv (.lit (.int .i64 i)))],[some (own (u8s bs))]⟩ R:=
 okT (.b 3 h1 (.c o1 (.c o2 (.c (zhp (z1D bs)) (.o 5 (.r (.lit (.string (z1D bs)))) (.o 6 (.r (.lit (.string (bytesOf (J5 (z1D bs)))))) .nil)))))) (by kernel_rfl) hR
end Go.Fw
