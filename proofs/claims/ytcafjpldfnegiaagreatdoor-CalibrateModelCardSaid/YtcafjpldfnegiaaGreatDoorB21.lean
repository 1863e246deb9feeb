/- A part of the proof that the law returns true for every input: an executor for the model's code, and what functions of the program compute. -/
import Derived.Test.YtcafjpldfnegiaaGreatDoorB11
import Derived.Test.YtcafjpldfnegiaaGreatDoorB15
import Derived.Test.YtcafjpldfnegiaaGreatDoorB19
import Derived.Test.YtcafjpldfnegiaaGreatDoorB20
import Derived.KernelRfl
open Go IntKind
namespace Go.Fw
theorem ztz (b : Bool) (x y z : Int) (hx : 0 ≤ x ∧ x < 16777216) (hy : 0 ≤ y ∧ y < 16777216) (hz : 0 ≤ z ∧ z < 16777216) :
    PCall P 196 [.lit (.bool b),.lst 3 [j5 x,j5 y,j5 z]] (J2 (if b then-(x+16777216*(y+16777216*z))else x+16777216*(y+16777216*z))):=by
 have h1:x.toNat<16777216:=by omega
 have h2:y.toNat<16777216:=by omega
 have h3:z.toNat<16777216:=by omega
 have h:=z3h b 3 [x.toNat,y.toNat,z.toNat] rfl (by
  intro v hv
  simp only[List.mem_cons,List.not_mem_nil,or_false]at hv
  rcases hv with e|e|e<;>(rw[e];assumption)) (by show 3<2^40;decide)
 have e:j4 [x.toNat,y.toNat,z.toNat]=[j5 x,j5 y,j5 z]:=by
  simp only[j4,List.map_cons,List.map_nil,Int.toNat_of_nonneg hx.1,Int.toNat_of_nonneg hy.1,Int.toNat_of_nonneg hz.1]
 rw[e]at h
 refine h.eq ?_
 have ev:((val B24 [x.toNat,y.toNat,z.toNat]:Nat):Int)=x+16777216*(y+16777216*z):=by
  simp only[val,B24];omega
 rw[ev]
set_option maxRecDepth 100000
theorem zq5(n:Int)(h1:decide (n<(0:Int))=true)(a:(0:Int)≤i64.wrap ((u64.wrap ((0:Int)-u64.wrap n)).tmod (16777216:Int))∧i64.wrap ((u64.wrap ((0:Int)-u64.wrap n)).tmod (16777216:Int))<(16777216:Int))(d:(0:Int)≤i64.wrap ((u64.wrap ((u64.wrap ((0:Int)-u64.wrap n)).tdiv (16777216:Int))).tmod (16777216:Int))∧i64.wrap ((u64.wrap ((u64.wrap ((0:Int)-u64.wrap n)).tdiv (16777216:Int))).tmod (16777216:Int))<(16777216:Int))(e:(0:Int)≤i64.wrap (u64.wrap ((u64.wrap ((u64.wrap ((0:Int)-u64.wrap n)).tdiv (16777216:Int))).tdiv (16777216:Int)))∧i64.wrap (u64.wrap ((u64.wrap ((u64.wrap ((0:Int)-u64.wrap n)).tdiv (16777216:Int))).tdiv (16777216:Int)))<(16777216:Int))(o7:[MV.cv (CV.lit (Value.int i64 (i64.wrap ((u64.wrap ((0:Int)-u64.wrap n)).tmod (16777216:Int))))),MV.cv (CV.lit (Value.int i64 (i64.wrap ((u64.wrap ((u64.wrap ((0:Int)-u64.wrap n)).tdiv (16777216:Int))).tmod (16777216:Int))))),MV.cv (CV.lit (Value.int i64 (i64.wrap (u64.wrap ((u64.wrap ((u64.wrap ((0:Int)-u64.wrap n)).tdiv (16777216:Int))).tdiv (16777216:Int))))))]=[MV.cv (CV.lit (Value.int i64 (i64.wrap ((u64.wrap ((0:Int)-u64.wrap n)).tmod (16777216:Int))))),MV.cv (CV.lit (Value.int i64 (i64.wrap ((u64.wrap ((u64.wrap ((0:Int)-u64.wrap n)).tdiv (16777216:Int))).tmod (16777216:Int))))),MV.cv (CV.lit (Value.int i64 (i64.wrap (u64.wrap ((u64.wrap ((u64.wrap ((0:Int)-u64.wrap n)).tdiv (16777216:Int))).tdiv (16777216:Int))))))]):PCall P (131:FuncId) [j5 n] (CV.agg [CV.lit (Value.bool (decide ((if decide (n<(0:Int))=true then-(i64.wrap ((u64.wrap ((0:Int)-u64.wrap n)).tmod (16777216:Int))+(16777216:Int)*(i64.wrap ((u64.wrap ((u64.wrap ((0:Int)-u64.wrap n)).tdiv (16777216:Int))).tmod (16777216:Int))+(16777216:Int)*i64.wrap (u64.wrap ((u64.wrap ((u64.wrap ((0:Int)-u64.wrap n)).tdiv (16777216:Int))).tdiv (16777216:Int)))))else i64.wrap ((u64.wrap ((0:Int)-u64.wrap n)).tmod (16777216:Int))+(16777216:Int)*(i64.wrap ((u64.wrap ((u64.wrap ((0:Int)-u64.wrap n)).tdiv (16777216:Int))).tmod (16777216:Int))+(16777216:Int)*i64.wrap (u64.wrap ((u64.wrap ((u64.wrap ((0:Int)-u64.wrap n)).tdiv (16777216:Int))).tdiv (16777216:Int)))))<(0:Int)))),CV.lit (Value.string (bytesOf (if decide (n<(0:Int))=true then-(i64.wrap ((u64.wrap ((0:Int)-u64.wrap n)).tmod (16777216:Int))+(16777216:Int)*(i64.wrap ((u64.wrap ((u64.wrap ((0:Int)-u64.wrap n)).tdiv (16777216:Int))).tmod (16777216:Int))+(16777216:Int)*i64.wrap (u64.wrap ((u64.wrap ((u64.wrap ((0:Int)-u64.wrap n)).tdiv (16777216:Int))).tdiv (16777216:Int)))))else i64.wrap ((u64.wrap ((0:Int)-u64.wrap n)).tmod (16777216:Int))+(16777216:Int)*(i64.wrap ((u64.wrap ((u64.wrap ((0:Int)-u64.wrap n)).tdiv (16777216:Int))).tmod (16777216:Int))+(16777216:Int)*i64.wrap (u64.wrap ((u64.wrap ((u64.wrap ((0:Int)-u64.wrap n)).tdiv (16777216:Int))).tdiv (16777216:Int))))).natAbs))]):=
 j3 (.b 6 h1 (.c (show(16777216:Int)≠(0:Int)from(by decide)) (.c (show(16777216:Int)≠(0:Int)from(by decide)) (.c (show(16777216:Int)≠(0:Int)from(by decide)) (.c (show(16777216:Int)≠(0:Int)from(by decide)) (.c (show(16777216:Int)≠(0:Int)from(by decide)) (.c (ztz (decide (n<(0:Int))) (i64.wrap ((u64.wrap ((0:Int)-u64.wrap n)).tmod (16777216:Int))) (i64.wrap ((u64.wrap ((u64.wrap ((0:Int)-u64.wrap n)).tdiv (16777216:Int))).tmod (16777216:Int))) (i64.wrap (u64.wrap ((u64.wrap ((u64.wrap ((0:Int)-u64.wrap n)).tdiv (16777216:Int))).tdiv (16777216:Int)))) a d e) (.c o7 (.c (show 2≤2 from(by decide)) (.o 24 (Or.k (CV.agg [CV.lit (Value.bool (decide ((if decide (n<(0:Int))=true then-(i64.wrap ((u64.wrap ((0:Int)-u64.wrap n)).tmod (16777216:Int))+(16777216:Int)*(i64.wrap ((u64.wrap ((u64.wrap ((0:Int)-u64.wrap n)).tdiv (16777216:Int))).tmod (16777216:Int))+(16777216:Int)*i64.wrap (u64.wrap ((u64.wrap ((u64.wrap ((0:Int)-u64.wrap n)).tdiv (16777216:Int))).tdiv (16777216:Int)))))else i64.wrap ((u64.wrap ((0:Int)-u64.wrap n)).tmod (16777216:Int))+(16777216:Int)*(i64.wrap ((u64.wrap ((u64.wrap ((0:Int)-u64.wrap n)).tdiv (16777216:Int))).tmod (16777216:Int))+(16777216:Int)*i64.wrap (u64.wrap ((u64.wrap ((u64.wrap ((0:Int)-u64.wrap n)).tdiv (16777216:Int))).tdiv (16777216:Int)))))<(0:Int)))),CV.lit (Value.string (bytesOf (if decide (n<(0:Int))=true then-(i64.wrap ((u64.wrap ((0:Int)-u64.wrap n)).tmod (16777216:Int))+(16777216:Int)*(i64.wrap ((u64.wrap ((u64.wrap ((0:Int)-u64.wrap n)).tdiv (16777216:Int))).tmod (16777216:Int))+(16777216:Int)*i64.wrap (u64.wrap ((u64.wrap ((u64.wrap ((0:Int)-u64.wrap n)).tdiv (16777216:Int))).tdiv (16777216:Int)))))else i64.wrap ((u64.wrap ((0:Int)-u64.wrap n)).tmod (16777216:Int))+(16777216:Int)*(i64.wrap ((u64.wrap ((u64.wrap ((0:Int)-u64.wrap n)).tdiv (16777216:Int))).tmod (16777216:Int))+(16777216:Int)*i64.wrap (u64.wrap ((u64.wrap ((u64.wrap ((0:Int)-u64.wrap n)).tdiv (16777216:Int))).tdiv (16777216:Int))))).natAbs))]) [[CV.lit (Value.int i64 (i64.wrap ((u64.wrap ((0:Int)-u64.wrap n)).tmod (16777216:Int)))),CV.lit (Value.int i64 (i64.wrap ((u64.wrap ((u64.wrap ((0:Int)-u64.wrap n)).tdiv (16777216:Int))).tmod (16777216:Int)))),CV.lit (Value.int i64 (i64.wrap (u64.wrap ((u64.wrap ((u64.wrap ((0:Int)-u64.wrap n)).tdiv (16777216:Int))).tdiv (16777216:Int)))))]]) .nil)))))))))) (by kernel_rfl)
theorem zqT(n:Int)(h1:decide (n<(0:Int))=false)(a:(0:Int)≤i64.wrap ((u64.wrap n).tmod (16777216:Int))∧i64.wrap ((u64.wrap n).tmod (16777216:Int))<(16777216:Int))(d:(0:Int)≤i64.wrap ((u64.wrap ((u64.wrap n).tdiv (16777216:Int))).tmod (16777216:Int))∧i64.wrap ((u64.wrap ((u64.wrap n).tdiv (16777216:Int))).tmod (16777216:Int))<(16777216:Int))(e:(0:Int)≤i64.wrap (u64.wrap ((u64.wrap ((u64.wrap n).tdiv (16777216:Int))).tdiv (16777216:Int)))∧i64.wrap (u64.wrap ((u64.wrap ((u64.wrap n).tdiv (16777216:Int))).tdiv (16777216:Int)))<(16777216:Int))(o7:[MV.cv (CV.lit (Value.int i64 (i64.wrap ((u64.wrap n).tmod (16777216:Int))))),MV.cv (CV.lit (Value.int i64 (i64.wrap ((u64.wrap ((u64.wrap n).tdiv (16777216:Int))).tmod (16777216:Int))))),MV.cv (CV.lit (Value.int i64 (i64.wrap (u64.wrap ((u64.wrap ((u64.wrap n).tdiv (16777216:Int))).tdiv (16777216:Int))))))]=[MV.cv (CV.lit (Value.int i64 (i64.wrap ((u64.wrap n).tmod (16777216:Int))))),MV.cv (CV.lit (Value.int i64 (i64.wrap ((u64.wrap ((u64.wrap n).tdiv (16777216:Int))).tmod (16777216:Int))))),MV.cv (CV.lit (Value.int i64 (i64.wrap (u64.wrap ((u64.wrap ((u64.wrap n).tdiv (16777216:Int))).tdiv (16777216:Int))))))]):PCall P (131:FuncId) [j5 n] (CV.agg [CV.lit (Value.bool (decide ((if decide (n<(0:Int))=true then-(i64.wrap ((u64.wrap n).tmod (16777216:Int))+(16777216:Int)*(i64.wrap ((u64.wrap ((u64.wrap n).tdiv (16777216:Int))).tmod (16777216:Int))+(16777216:Int)*i64.wrap (u64.wrap ((u64.wrap ((u64.wrap n).tdiv (16777216:Int))).tdiv (16777216:Int)))))else i64.wrap ((u64.wrap n).tmod (16777216:Int))+(16777216:Int)*(i64.wrap ((u64.wrap ((u64.wrap n).tdiv (16777216:Int))).tmod (16777216:Int))+(16777216:Int)*i64.wrap (u64.wrap ((u64.wrap ((u64.wrap n).tdiv (16777216:Int))).tdiv (16777216:Int)))))<(0:Int)))),CV.lit (Value.string (bytesOf (if decide (n<(0:Int))=true then-(i64.wrap ((u64.wrap n).tmod (16777216:Int))+(16777216:Int)*(i64.wrap ((u64.wrap ((u64.wrap n).tdiv (16777216:Int))).tmod (16777216:Int))+(16777216:Int)*i64.wrap (u64.wrap ((u64.wrap ((u64.wrap n).tdiv (16777216:Int))).tdiv (16777216:Int)))))else i64.wrap ((u64.wrap n).tmod (16777216:Int))+(16777216:Int)*(i64.wrap ((u64.wrap ((u64.wrap n).tdiv (16777216:Int))).tmod (16777216:Int))+(16777216:Int)*i64.wrap (u64.wrap ((u64.wrap ((u64.wrap n).tdiv (16777216:Int))).tdiv (16777216:Int))))).natAbs))]):=
 j3 (.b 6 h1 (.c (show(16777216:Int)≠(0:Int)from(by decide)) (.c (show(16777216:Int)≠(0:Int)from(by decide)) (.c (show(16777216:Int)≠(0:Int)from(by decide)) (.c (show(16777216:Int)≠(0:Int)from(by decide)) (.c (show(16777216:Int)≠(0:Int)from(by decide)) (.c (ztz (decide (n<(0:Int))) (i64.wrap ((u64.wrap n).tmod (16777216:Int))) (i64.wrap ((u64.wrap ((u64.wrap n).tdiv (16777216:Int))).tmod (16777216:Int))) (i64.wrap (u64.wrap ((u64.wrap ((u64.wrap n).tdiv (16777216:Int))).tdiv (16777216:Int)))) a d e) (.c o7 (.c (show 2≤2 from(by decide)) (.o 21 (Or.k (CV.agg [CV.lit (Value.bool (decide ((if decide (n<(0:Int))=true then-(i64.wrap ((u64.wrap n).tmod (16777216:Int))+(16777216:Int)*(i64.wrap ((u64.wrap ((u64.wrap n).tdiv (16777216:Int))).tmod (16777216:Int))+(16777216:Int)*i64.wrap (u64.wrap ((u64.wrap ((u64.wrap n).tdiv (16777216:Int))).tdiv (16777216:Int)))))else i64.wrap ((u64.wrap n).tmod (16777216:Int))+(16777216:Int)*(i64.wrap ((u64.wrap ((u64.wrap n).tdiv (16777216:Int))).tmod (16777216:Int))+(16777216:Int)*i64.wrap (u64.wrap ((u64.wrap ((u64.wrap n).tdiv (16777216:Int))).tdiv (16777216:Int)))))<(0:Int)))),CV.lit (Value.string (bytesOf (if decide (n<(0:Int))=true then-(i64.wrap ((u64.wrap n).tmod (16777216:Int))+(16777216:Int)*(i64.wrap ((u64.wrap ((u64.wrap n).tdiv (16777216:Int))).tmod (16777216:Int))+(16777216:Int)*i64.wrap (u64.wrap ((u64.wrap ((u64.wrap n).tdiv (16777216:Int))).tdiv (16777216:Int)))))else i64.wrap ((u64.wrap n).tmod (16777216:Int))+(16777216:Int)*(i64.wrap ((u64.wrap ((u64.wrap n).tdiv (16777216:Int))).tmod (16777216:Int))+(16777216:Int)*i64.wrap (u64.wrap ((u64.wrap ((u64.wrap n).tdiv (16777216:Int))).tdiv (16777216:Int))))).natAbs))]) [[CV.lit (Value.int i64 (i64.wrap ((u64.wrap n).tmod (16777216:Int)))),CV.lit (Value.int i64 (i64.wrap ((u64.wrap ((u64.wrap n).tdiv (16777216:Int))).tmod (16777216:Int)))),CV.lit (Value.int i64 (i64.wrap (u64.wrap ((u64.wrap ((u64.wrap n).tdiv (16777216:Int))).tdiv (16777216:Int)))))]]) .nil)))))))))) (by kernel_rfl)
theorem z8y {U : Int} (h : 0 ≤ U ∧ U ≤ 9223372036854775808) : i64.wrap (U.tmod 16777216) = U % 16777216 ∧ u64.wrap (U.tdiv 16777216) = U / 16777216 ∧ i64.wrap ((U / 16777216).tmod 16777216) = U / 16777216 % 16777216 ∧
    i64.wrap (u64.wrap ((U/16777216).tdiv 16777216))=U/16777216/16777216:=by
 rw[Int.tmod_eq_emod_of_nonneg h.1,Int.tdiv_eq_ediv_of_nonneg h.1,Int.tmod_eq_emod_of_nonneg (by omega),Int.tdiv_eq_ediv_of_nonneg (by omega),z1Y,z1Y,w64 (by omega),w64 (by omega),w64 (by omega)]
 omega
theorem Z5(n:Int)(h: -9223372036854775808≤n∧n≤9223372036854775807):PCall P 131 [j5 n] (J2 n):=by
 cases h1:decide (n<0)with
 |true=>
  have h1':=of_decide_eq_true h1
  have hu:u64.wrap (0-u64.wrap n)= -n:=by rw[z1Y,z1Y];omega
  obtain⟨d1,d2,d3,d4⟩:=z8y (U:= -n) (by omega)
  refine(zq5 n h1 (by rw[hu,d1];omega) (by rw[hu,d2,d3];omega) (by rw[hu,d2,d4];omega) rfl).eq ?_
  rw[hu,d1,d2,d3,d4]
  show J2 _=J2 n
  congr 1
  rw[if_pos (by simpa using h1')];omega
 |false=>
  have h1':=of_decide_eq_false h1
  have hu:u64.wrap n=n:=by rw[z1Y];omega
  obtain⟨d1,d2,d3,d4⟩:=z8y (U:=n) (by omega)
  refine(zqT n h1 (by rw[hu,d1];omega) (by rw[hu,d2,d3];omega) (by rw[hu,d2,d4];omega) rfl).eq ?_
  rw[hu,d1,d2,d3,d4]
  show J2 _=J2 n
  congr 1
  rw[if_neg (by simpa using h1')];omega
theorem ziX(z:Int)(h1:decide ((↑(bytesOf z.natAbs).size:Int)>8)=false){R:CV→Prop}(hR:Ok P 236 (loopHead P 236 0) ⟨J1 52 [(1,.ptr 0 0),(4,.cv (.lit (.int .u64 0))),(5,.cv (.lit (.int .i64 0)))],[some [.cv (.lit (.bool (decide (z<0)))),.cv (.lit (.string (bytesOf z.natAbs)))]]⟩ (.of R)):Y3 P 236 [J2 z] R:=
 Z6 (keep:=[1,4,5]) (σ:=[0]) (.r 4 (J3 z) (.b 12 h1 (.o 15 .stop .nil))) (by kernel_rfl) rfl hR (.cons (by simp[CvL]) .nil)
theorem zhC(b:Bool)(s:ByteArray)(i u:Nat)(h:decide ((i:Int)<(↑s.size:Int))=true)(o2:(0:Int)≤i∧(i:Int)<(↑s.size:Int)){R:Goal}(hn:j7 R.n [0]=true)(hR:Ok P 236 (loopHead P 236 0) ⟨J1 52 [(1,.ptr 0 0),(4,.cv (.lit (.int .u64 (u64.wrap (u64.wrap ((u:Int)*256)+u64.wrap (↑(s.data.getD (i:Int).toNat (OfNat.ofNat 0)).toNat:Int)))))),(5,.cv (.lit (.int .i64 (i64.wrap ((i:Int)+1)))))],[some [.cv (.lit (.bool b)),.cv (.lit (.string s))]]⟩ R):Ok P 236 (loopHead P 236 0) ⟨J1 52 [(1,.ptr 0 0),(4,.cv (.lit (.int .u64 (u:Int)))),(5,.cv (j5 (i:Int)))],[some [.cv (.lit (.bool b)),.cv (.lit (.string s))]]⟩ R:=
 z07 (keep:=[1,4,5]) (σ:=[0]) (.b 6 h (.c (nn 8) (.c o2 (.o 19 .stop .nil)))) (by kernel_rfl) rfl hn hR (.cons (by simp[CvL]) .nil)
theorem zg2(s:ByteArray)(i:Nat)(u:Int)(h:decide ((i:Int)<(↑s.size:Int))=false)(h2:decide (u<9223372036854775808)=true){R:Goal}(hR:R.c (.tup [.lit (.int .i64 (i64.wrap u)),.lit (.bool true)])):Ok P 236 (loopHead P 236 0) ⟨J1 52 [(1,.ptr 0 0),(4,.cv (.lit (.int .u64 u))),(5,.cv (j5 (i:Int)))],[some [.cv (.lit (.bool false)),.cv (.lit (.string s))]]⟩ R:=
 okT (.b 6 h (.b 23 h2 .nil)) (by kernel_rfl) hR
theorem zh4(s:ByteArray)(i:Nat)(u:Int)(h:decide ((i:Int)<(↑s.size:Int))=false)(h2:decide (u≤9223372036854775808)=true){R:Goal}(hR:R.c (.tup [.lit (.int .i64 (i64.wrap (i64.wrap ((0:Int)-i64.wrap (u64.wrap (u-1)))-1))),.lit (.bool true)])):Ok P 236 (loopHead P 236 0) ⟨J1 52 [(1,.ptr 0 0),(4,.cv (.lit (.int .u64 u))),(5,.cv (j5 (i:Int)))],[some [.cv (.lit (.bool true)),.cv (.lit (.string s))]]⟩ R:=
 okT (.b 6 h (.b 14 h2 .nil)) (by kernel_rfl) hR
theorem z79(s:ByteArray){i:Nat}(h:i<s.size):(s.data.getD i (OfNat.ofNat 0)).toNat=J9 s/256^(s.size-1-i)%256:=by
 have:=z7k s (i:=s.size-1-i) (by omega)
 rw[show s.size-1-(s.size-1-i)=i by omega]at this
 refine this.symm.trans ?_
 have hd:=z1K s
 conv=>lhs;rw[←z0D (by decide) (z2B s) hd]
 rw[W4 _ _ _ _ (by rw[V8];omega)];rfl
theorem z9i {R : Goal} (hn : R.n = 0) (b : Bool) (s : ByteArray) (hs : s.size ≤ 8)
    (hR:Ok P 236 (loopHead P 236 0) ⟨J1 52 [(1,.ptr 0 0),(4,.cv (.lit (.int .u64 (J9 s:Nat)))),(5,.cv (j5 s.size))],[some [.cv (.lit (.bool b)),.cv (.lit (.string s))]]⟩ R): ∀(d i:Nat),i+d=s.size→
    Ok P 236 (loopHead P 236 0) ⟨J1 52 [(1,.ptr 0 0),(4,.cv (.lit (.int .u64 (J9 s/256^(s.size-i):Nat)))),(5,.cv (j5 i))],[some [.cv (.lit (.bool b)),.cv (.lit (.string s))]]⟩ R
 |0,i,hi=>by
  have:i=s.size:=by omega
  subst this
  simpa using hR
 |d+1,i,hi=>by
  refine zhC b s i _ (decide_eq_true (by omega)) (by omega) (by rw[hn];rfl) ?_
  have hb:=z79 s (i:=i) (by omega)
  have hV:J9 s<18446744073709551616:=Nat.lt_of_lt_of_le (z0L s) (Nat.pow_le_pow_right (by decide) hs)
  have hstep:J9 s/256^(s.size-(i+1))=J9 s/256^(s.size-i)*256+J9 s/256^(s.size-1-i)%256:=by
   rw[show s.size-i=(s.size-1-i)+1 by omega,Nat.pow_succ,←Nat.div_div_eq_div_mul,show s.size-(i+1)=s.size-1-i by omega]
   omega
  have hle:=Nat.div_le_self (J9 s) (256^(s.size-(i+1)))
  have ih:=z9i hn b s hs hR d (i+1) (by omega)
  rw[hstep]at ih hle
  rw[Int.toNat_natCast,hb,z1Y,z1Y,z1Y,w64 (by omega)]
  generalize J9 s/256^(s.size-i)=A at ih hle ⊢
  generalize J9 s/256^(s.size-1-i)%256=B at ih hle ⊢
  rw[show((A:Int)*256%18446744073709551616+(B:Int)%18446744073709551616)%18446744073709551616=((A*256+B:Nat):Int) by omega]
  exact ih
theorem V7{n k:Nat}:(bytesOf n).size≤k↔n<256^k:=by rw[z0p];exact z3G (by decide)
theorem zf3(z:Int)(h: -9223372036854775808<z∧z<9223372036854775808):PCall P 236 [J2 z] (.tup [j5 z,.lit (.bool true)]):=by
 have hs:(bytesOf z.natAbs).size≤8:=V7.2 (by omega)
 refine ziX z (decide_eq_false (by omega)) (R := (· = _)) ?_
 have hv:J9 (bytesOf z.natAbs)=z.natAbs:=z0d _
 have := z9i (R := (· = CV.tup [j5 z, .lit (.bool true)])) rfl (decide (z < 0)) (bytesOf z.natAbs) hs ?_ (bytesOf z.natAbs).size 0 (by omega)
 · have e:J9 (bytesOf z.natAbs)/256^((bytesOf z.natAbs).size-0)=0:=Nat.div_eq_of_lt (z0L _)
   rw[e]at this
   exact this
 · rw[hv]
   by_cases hz:z<0
   · rw[decide_eq_true hz]
     refine zh4 _ _ _ (decide_eq_false (by omega)) (decide_eq_true (by omega)) ?_
     show CV.tup _=CV.tup _
     rw[z1Y,w64 (n:=((z.natAbs:Int)-1)%18446744073709551616) (by omega),w64 (n:=0-((z.natAbs:Int)-1)%18446744073709551616) (by omega),w64 (by omega)]
     congr 4;omega
   · rw[decide_eq_false hz]
     refine zg2 _ _ _ (decide_eq_false (by omega)) (decide_eq_true (by omega)) ?_
     show CV.tup _=CV.tup _
     rw[w64 (by omega)]
     congr 4;omega
theorem zdK(z:Int)(h1:decide ((↑(bytesOf z.natAbs).size:Int)>7)=true):PCall P 194 [J2 z] (.tup [.lit (.int .i64 0),.lit (.bool false)]):=
 j3 (.b 7 h1 .nil) (by kernel_rfl)
theorem zfk(z:Int)(h1:decide ((↑(bytesOf z.natAbs).size:Int)>7)=false)(a:(-9223372036854775808:Int)<z∧z<9223372036854775808):PCall P 194 [J2 z] (.tup [.lit (.int .i64 z),.lit (.bool true)]):=
 j3 (.b 7 h1 (.r 9 (zf3 z a) .nil)) (by kernel_rfl)
theorem zhQ(z:Int)(h1:((bytesOf z.natAbs).toList==[])=true):PCall P 183 [J2 z] (.lit (.int .i64 0)):=
 j3 (.r 3 (J3 z) (.b 11 h1 .nil)) (by kernel_rfl)
theorem zfG(z:Int)(h1:((bytesOf z.natAbs).toList==[])=false)(h2:decide (z<0)=true):PCall P 183 [J2 z] (.lit (.int .i64 (-1:Int))):=
 j3 (.r 3 (J3 z) (.b 11 h1 (.b 15 h2 .nil))) (by kernel_rfl)
theorem zg6(z:Int)(h1:((bytesOf z.natAbs).toList==[])=false)(h2:decide (z<0)=false):PCall P 183 [J2 z] (.lit (.int .i64 1)):=
 j3 (.r 3 (J3 z) (.b 11 h1 (.b 15 h2 .nil))) (by kernel_rfl)
theorem zlK(z:Int):PCall P 186 [J2 z] (.agg [.lit (.bool false),.lit (.string (bytesOf z.natAbs))]):=
 j3 (.r 3 (J3 z) (.c (lq 2 2) .nil)) (by kernel_rfl)
theorem ziO(z:Int)(h1:((bytesOf z.natAbs).toList==[])=true):PCall P 132 [J2 z] (.agg [.lit (.bool false),.lit (.string {data:= #[]})]):=
 j3 (.r 3 (J3 z) (.b 10 h1 (.c (lq 2 2) .nil))) (by kernel_rfl)
theorem zlp(z:Int)(h1:((bytesOf z.natAbs).toList==[])=false):PCall P 132 [J2 z] (.agg [.lit (.bool !decide (z<0)),.lit (.string (bytesOf z.natAbs))]):=
 j3 (.r 3 (J3 z) (.b 10 h1 (.c (lq 2 2) .nil))) (by kernel_rfl)
theorem zjZ(n m o i j x V:Nat)(xs ys:List Nat)(h1:decide ((j:Int)<m)=true)(a:(0:Int)≤i64.wrap ((i:Int)+j))(c:o<2^40)(d:(i64.wrap ((i:Int)+j)).toNat+1<o)(e:V+x*ys.getD ((j:Int).toNat*1) 0*4294967296^(i64.wrap ((i:Int)+j)).toNat<4294967296^o)(f:x<4294967296)(g:ys.getD ((j:Int).toNat*1) 0<4294967296)(o1:(0:Int)≤j∧(j:Int)<m)(o2:(j8 ys)[(j:Int).toNat*1]?=some (.lit (.int .u32 ↑(ys.getD ((j:Int).toNat*1) 0))))(o5:BlksCv [some (own (j8 (Z1 4294967296 o V))),some (own (j8 (Z1 4294967296 o (V+x*ys.getD ((j:Int).toNat*1) 0*4294967296^(i64.wrap ((i:Int)+j)).toNat))))])(o6:CvL (own (j8 (Z1 4294967296 o (V+x*ys.getD ((j:Int).toNat*1) 0*4294967296^(i64.wrap ((i:Int)+j)).toNat))))){R:Goal}(hn:j7 R.n [0]=true)(hR:Ok P 243 (loopHead P 243 1) ⟨J1 45 [(1,.cv (.lst m (j8 ys))),(5,.sl 0 0 o 1),(6,MV.fn 258 [.sl 0 0 o 1] []),(7,.cv (.lit (.int .i64 (i:Int)))),(8,.cv (.lit (.int .u32 (x:Int)))),(20,.cv (.lst n (j8 xs))),(21,.cv (.lit (.int .i64 (n:Int)))),(22,.cv (.lit (.int .i64 (i:Int)))),(27,.cv (.lst m (j8 ys))),(28,.cv (.lit (.int .i64 (m:Int)))),(29,.cv (.lit (.int .i64 (i64.wrap ((j:Int)+1)))))],[some (own (j8 (Z1 4294967296 o (V+x*ys.getD ((j:Int).toNat*1) 0*4294967296^(i64.wrap ((i:Int)+j)).toNat))))]⟩ R):Ok P 243 (loopHead P 243 1) ⟨J1 45 [(1,.cv (.lst m (j8 ys))),(5,.sl 0 0 o 1),(6,MV.fn 258 [.sl 0 0 o 1] []),(7,.cv (.lit (.int .i64 (i:Int)))),(8,.cv (.lit (.int .u32 (x:Int)))),(20,.cv (.lst n (j8 xs))),(21,.cv (.lit (.int .i64 (n:Int)))),(22,.cv (.lit (.int .i64 (i:Int)))),(27,.cv (.lst m (j8 ys))),(28,.cv (.lit (.int .i64 (m:Int)))),(29,.cv (.lit (.int .i64 (j:Int))))],[some (own (j8 (Z1 B32 o V)))]⟩ R:=
 okS (keep:=[1,5,6,7,8,20,21,22,27,28,29]) (σ:=[0]) (ors:=[(2,.b true),(5,.r (.lit (.int .u32 ↑(ys.getD ((j:Int).toNat*1) 0)))),(14,.m [0] (.tup []) [some (own (j8 (Z1 B32 o (V+x*ys.getD ((j:Int).toNat*1) 0*B32^(i64.wrap ((i:Int)+j)).toNat))))]),(17,.stop)]) (by kernel_rfl) rfl (.cons h1 (.cons o1 (.cons o2 (.cons (eqn 1) (.cons (zfo o V (i64.wrap ((i:Int)+j)) x (ys.getD ((j:Int).toNat*1) 0) a c d e f g) (.cons o5 (.cons o6 .nil))))))) hn hR
theorem zjD(n m o i j x V:Nat)(xs ys:List Nat)(h1:decide ((j:Int)<m)=false)(o1:CvL (own (j8 (Z1 4294967296 o V)))){R:Goal}(hn:j7 R.n [0]=true)(hR:Ok P 243 (loopHead P 243 0) ⟨J1 45 [(1,.cv (.lst m (j8 ys))),(5,.sl 0 0 o 1),(6,MV.fn 258 [.sl 0 0 o 1] []),(20,.cv (.lst n (j8 xs))),(21,.cv (.lit (.int .i64 (n:Int)))),(22,.cv (.lit (.int .i64 (i64.wrap ((i:Int)+1)))))],[some (own (j8 (Z1 4294967296 o V)))]⟩ R):Ok P 243 (loopHead P 243 1) ⟨J1 45 [(1,.cv (.lst m (j8 ys))),(5,.sl 0 0 o 1),(6,MV.fn 258 [.sl 0 0 o 1] []),(7,.cv (.lit (.int .i64 (i:Int)))),(8,.cv (.lit (.int .u32 (x:Int)))),(20,.cv (.lst n (j8 xs))),(21,.cv (.lit (.int .i64 (n:Int)))),(22,.cv (.lit (.int .i64 (i:Int)))),(27,.cv (.lst m (j8 ys))),(28,.cv (.lit (.int .i64 (m:Int)))),(29,.cv (.lit (.int .i64 (j:Int))))],[some (own (j8 (Z1 B32 o V)))]⟩ R:=
 okS (keep:=[1,5,6,20,21,22]) (σ:=[0]) (ors:=[(2,.b false),(5,.stop)]) (by kernel_rfl) rfl (.cons h1 (.cons o1 .nil)) hn hR
theorem z5C{b:Nat}(xs:List Nat)(i:Nat):val b (xs.take i)≤val b xs:=by
 by_cases h:i≤xs.length
 · rw[z15 (b:=b) xs i h];omega
 · rw[z0o (by omega)];exact Nat.le_refl _
theorem zfT {R : Goal} (hn : j7 R.n [0] = true) (xs ys : List Nat) (hxl : xs.length < 2 ^ 38) (hyl : ys.length < 2 ^ 38) (hx : Dig B32 xs) (hy : Dig B32 ys)
    (hR:R.c (z0c (val B32 xs*val B32 ys))):
    ∀(k i:Nat),xs.length-i=k→i≤xs.length→
     Ok P 243 (loopHead P 243 0) ⟨J1 45 [(1,.cv (.lst ys.length (j8 ys))),(5,.sl 0 0 (xs.length+ys.length+1) 1),(6,.fn 258 [.sl 0 0 (xs.length+ys.length+1) 1] []),(20,.cv (.lst xs.length (j8 xs))),
      (21,.cv (.lit (.int .i64 xs.length))),(22,.cv (.lit (.int .i64 i)))],[some (own (j8 (Z1 B32 (xs.length+ys.length+1) (val B32 (xs.take i)*val B32 ys))))]⟩ R:=by
 have hbound:val B32 xs*val B32 ys<B32^(xs.length+ys.length+1):=by
  have h1:=z0I (by decide:0<B32) xs hx
  have h2:=z0I (by decide:0<B32) ys hy
  have h3:val B32 xs*val B32 ys<B32^xs.length*B32^ys.length:=Nat.mul_lt_mul_of_lt_of_le h1 (Nat.le_of_lt h2) (Nat.pow_pos (by decide))
  rw[←Nat.pow_add]at h3
  exact Nat.lt_trans h3 (Nat.pow_lt_pow_right (by decide) (by omega))
 generalize ho:xs.length+ys.length+1=o at*
 intro k
 induction k with
 |zero=>
  intro i hk hi
  have:i=xs.length:=by omega
  subst this
  rw[List.take_length]
  refine zmK _ _ _ _ _ _ _ (by simp) (j9 _ _ _).symm (U8 (by decide) _ _) (by rw[j9];omega) (z17 (by rw[Q7,j9])) ?_
  rw[show(4294967296:Nat)=B32 from rfl,z0h,Nat.mod_eq_of_lt hbound]
  exact hR
 |succ k ih=>
  intro i hk hi
  have hlt:i<xs.length:=by omega
  have e1:(i:Int).toNat*1=i:=by omega
  have dx:=hx.get (by decide) i
  have htk:=V5 (b:=B32) hlt
  have inner : ∀ (q j : Nat), ys.length - j = q → j ≤ ys.length →
      Ok P 243 (loopHead P 243 1) ⟨J1 45 [(1,.cv (.lst ys.length (j8 ys))),(5,.sl 0 0 o 1),(6,.fn 258 [.sl 0 0 o 1] []),(7,.cv (.lit (.int .i64 i))),(8,.cv (.lit (.int .u32 (xs.getD i 0:Nat)))),
       (20,.cv (.lst xs.length (j8 xs))),(21,.cv (.lit (.int .i64 xs.length))),(22,.cv (.lit (.int .i64 i))),(27,.cv (.lst ys.length (j8 ys))),(28,.cv (.lit (.int .i64 ys.length))),(29,.cv (.lit (.int .i64 j)))],
       [some (own (j8 (Z1 B32 o (val B32 (xs.take i)*val B32 ys+xs.getD i 0*val B32 (ys.take j)*B32^i))))]⟩ R:=by
   intro q
   induction q with
   |zero=>
    intro j hq hj
    have:j=ys.length:=by omega
    subst this
    refine zjD _ _ _ _ _ _ _ _ _ (by simp) (J0 _) hn ?_
    rw[List.take_length,show i64.wrap ((i:Int)+1)=((i+1:Nat):Int) by rw[w64 (by omega)];omega]
    have:=ih (i+1) (by omega) (by omega)
    rw[htk,Nat.add_mul,show B32^i*xs.getD i 0*val B32 ys=xs.getD i 0*val B32 ys*B32^i by rw[Nat.mul_comm (B32^i),Nat.mul_assoc,Nat.mul_assoc,Nat.mul_comm (B32^i)]]at this
    exact this
   |succ q ihq=>
    intro j hq hj
    have hjl:j<ys.length:=by omega
    have e2:(j:Int).toNat*1=j:=by omega
    have e3:i64.wrap ((i:Int)+(j:Int))=((i+j:Nat):Int):=by rw[w64 (by omega)];omega
    have e4:(((i+j:Nat):Int)).toNat=i+j:=by omega
    have e5:i64.wrap ((j:Int)+1)=((j+1:Nat):Int):=by rw[w64 (by omega)];omega
    have dy:=hy.get (by decide) j
    have hty:=V5 (b:=B32) hjl
    have hsum : val B32 (xs.take i) * val B32 ys + xs.getD i 0 * val B32 (ys.take j) * B32 ^ i + xs.getD i 0 * ys.getD j 0 * B32 ^ (i + j) =
        val B32 (xs.take i)*val B32 ys+xs.getD i 0*val B32 (ys.take (j+1))*B32^i:=by
     rw[hty,Nat.mul_add,Nat.add_mul,Nat.pow_add,Nat.add_assoc]
     congr 2
     rw[Nat.mul_comm (B32^j),Nat.mul_assoc (xs.getD i 0),Nat.mul_assoc (xs.getD i 0),Nat.mul_assoc (ys.getD j 0),Nat.mul_comm (B32^j)]
    have hle:val B32 (xs.take i)*val B32 ys+xs.getD i 0*val B32 (ys.take (j+1))*B32^i<B32^o:=by
     refine Nat.lt_of_le_of_lt ?_ hbound
     have h1:val B32 (xs.take (i+1))*val B32 ys≤val B32 xs*val B32 ys:=Nat.mul_le_mul_right _ (z5C _ _)
     rw[htk,Nat.add_mul]at h1
     have h2:xs.getD i 0*val B32 (ys.take (j+1))*B32^i≤B32^i*xs.getD i 0*val B32 ys:=by
      rw[Nat.mul_comm _ (B32^i),←Nat.mul_assoc]
      exact Nat.mul_le_mul_left _ (z5C _ _)
     omega
    refine zjZ _ _ _ _ _ _ _ _ _ (by simpa using hjl) (by rw[e3];omega) (by omega) (by rw[e3,e4];omega) (by rw[e3,e4,e2];exact hsum ▸ hle) dx (by rw[e2];exact dy) (by omega) (by rw[e2];exact Y7 hjl) (BlksCv.two (J0 _) (J0 _)) (J0 _) hn ?_
    rw[e3,e4,e2,e5,show(4294967296:Nat)=B32 from rfl,hsum]
    exact ihq (j+1) (by omega) (by omega)
  refine zl5 _ _ _ _ _ _ _ (by simpa using hlt) (by omega) (by rw[e1];exact Y7 hlt) (J0 _) hn ?_
  have:=inner _ 0 rfl (Nat.zero_le _)
  rw[List.take_zero,show val B32 []=0 from rfl,Nat.mul_zero,Nat.zero_mul,Nat.add_zero]at this
  rw[e1]
  exact this
theorem zg9(a b:Nat)(ha:(dig B32 a).length<2^38)(hb:(dig B32 b).length<2^38):PCall P 243 [z0c a,z0c b] (z0c (a*b)):=by
 have e1:i64.wrap (i64.wrap (((dig B32 a).length:Int)+(dig B32 b).length)+1)=(((dig B32 a).length+(dig B32 b).length+1:Nat):Int):=by
  rw[w64 (n:=((dig B32 a).length:Int)+(dig B32 b).length) (by omega),w64 (by omega)];omega
 have e2:((((dig B32 a).length+(dig B32 b).length+1:Nat):Int)).toNat=(dig B32 a).length+(dig B32 b).length+1:=by omega
 refine zmR _ _ _ _ (by rw[e1];omega) (by rw[U4];exact J0 _) ?_
 rw[e1,e2,U4,Nat.mul_one]
 have:=zfT (R:= .of (fun x=>x=z0c (a*b))) rfl (dig B32 a) (dig B32 b) ha hb (Y8 (by decide) _) (Y8 (by decide) _) (by rw[Q8 (by decide),Q8 (by decide)];rfl) _ 0 rfl (Nat.zero_le _)
 rw[List.take_zero,show val B32 []=0 from rfl,Nat.zero_mul,z1x]at this
 exact this
theorem zpD(n:Int)(h1:(decide (n<0))=true)(a:(0:Int)≤u64.wrap ((0:Int)-u64.wrap n))(d:u64.wrap ((0:Int)-u64.wrap n)<18446744073709551616)(e:Sml (u64.wrap ((0:Int)-u64.wrap n)).toNat):PCall P 206 [.lit (.int .i64 n)] (.agg [.lit (.bool (decide (sgn true (u64.wrap ((0:Int)-u64.wrap n)).toNat<0))),.lit (.string (bytesOf (sgn true (u64.wrap ((0:Int)-u64.wrap n)).toNat).natAbs))]):=
 j3 (.b 3 h1 (.r 7 (z7H (u64.wrap ((0:Int)-u64.wrap n)) a d) (.r 8 (U9 ((u64.wrap ((0:Int)-u64.wrap n)).toNat) true e) (.c (lq 2 2) .nil)))) (by kernel_rfl)
theorem zqy(n:Int)(h1:(decide (n<0))=false)(a:(0:Int)≤u64.wrap n)(d:u64.wrap n<18446744073709551616)(e:Sml (u64.wrap n).toNat):PCall P 206 [.lit (.int .i64 n)] (.agg [.lit (.bool (decide (sgn false (u64.wrap n).toNat<0))),.lit (.string (bytesOf (sgn false (u64.wrap n).toNat).natAbs))]):=
 j3 (.b 3 h1 (.r 6 (z7H (u64.wrap n) a d) (.r 7 (U9 ((u64.wrap n).toNat) false e) (.c (lq 2 2) .nil)))) (by kernel_rfl)
theorem zkx(a:Int)(h1:(!decide (a<0))=true):PCall P 189 [J2 a] (.agg [.lit (.bool !(bytesOf a.natAbs).toList==[]),.lit (.string (bytesOf a.natAbs))]):=
 j3 (.r 3 (J7 a) (.b 9 h1 (.c (lq 2 2) .nil))) (by kernel_rfl)
theorem zlU(a:Int)(h1:(!decide (a<0))=false):PCall P 189 [J2 a] (.agg [.lit (.bool false),.lit (.string (bytesOf a.natAbs))]):=
 j3 (.r 3 (J7 a) (.b 9 h1 (.c (lq 2 2) .nil))) (by kernel_rfl)
theorem zhB(a:Int)(h1:((bytesOf a.natAbs).toList==[])=true):PCall P 215 [J2 a] (.lit (.int .i64 0)):=
 j3 (.r 3 (J7 a) (.b 11 h1 .nil)) (by kernel_rfl)
theorem zfE(a:Int)(h1:((bytesOf a.natAbs).toList==[])=false)(h2:(decide (a<0))=true):PCall P 215 [J2 a] (.lit (.int .i64 (-1:Int))):=
 j3 (.r 3 (J7 a) (.b 11 h1 (.b 15 h2 .nil))) (by kernel_rfl)
theorem zfV(a:Int)(h1:((bytesOf a.natAbs).toList==[])=false)(h2:(decide (a<0))=false):PCall P 215 [J2 a] (.lit (.int .i64 1)):=
 j3 (.r 3 (J7 a) (.b 11 h1 (.b 15 h2 .nil))) (by kernel_rfl)
theorem zmS(a b:Int)(h1:(decide (a<0)==decide (b<0))=true)(d:Sml a.natAbs)(e:Sml b.natAbs)(f:(dig 4294967296 a.natAbs).length<2^40)(g:(dig 4294967296 b.natAbs).length<2^40)(i:Sml (a.natAbs+b.natAbs)):PCall P 202 [J2 a,J2 b] (.agg [.lit (.bool (decide (sgn (decide (a<0)) (a.natAbs+b.natAbs)<0))),.lit (.string (bytesOf (sgn (decide (a<0)) (a.natAbs+b.natAbs)).natAbs))]):=
 j3 (.r 4 (J7 a) (.r 8 (J7 b) (.r 14 (U5 a.natAbs d) (.r 17 (U5 b.natAbs e) (.b 26 h1 (.r 29 (z7f a.natAbs b.natAbs f g) (.r 32 (U9 (a.natAbs+b.natAbs) (decide (a<0)) i) (.c (lq 2 2) .nil)))))))) (by kernel_rfl)
theorem zkH(a b:Int)(h1:(decide (a<0)==decide (b<0))=false)(h2:(decide (z9m a.natAbs b.natAbs (dig 4294967296 a.natAbs).length (dig 4294967296 b.natAbs).length≥0))=true)(d:Sml a.natAbs)(e:Sml b.natAbs)(f:(dig 4294967296 a.natAbs).length<2^62)(g:(dig 4294967296 b.natAbs).length<2^62)(i:(dig 4294967296 a.natAbs).length<2^40)(j:b.natAbs≤a.natAbs)(k:Sml (a.natAbs-b.natAbs)):PCall P 202 [J2 a,J2 b] (.agg [.lit (.bool (decide (sgn (decide (a<0)) (a.natAbs-b.natAbs)<0))),.lit (.string (bytesOf (sgn (decide (a<0)) (a.natAbs-b.natAbs)).natAbs))]):=
 j3 (.r 4 (J7 a) (.r 8 (J7 b) (.r 14 (U5 a.natAbs d) (.r 17 (U5 b.natAbs e) (.b 26 h1 (.r 29 (z2y a.natAbs b.natAbs f g) (.b 32 h2 (.r 35 (z9e a.natAbs b.natAbs i j) (.r 38 (U9 (a.natAbs-b.natAbs) (decide (a<0)) k) (.c (lq 2 2) .nil)))))))))) (by kernel_rfl)
theorem zlT(a b:Int)(h1:(decide (a<0)==decide (b<0))=false)(h2:(decide (z9m a.natAbs b.natAbs (dig 4294967296 a.natAbs).length (dig 4294967296 b.natAbs).length≥0))=false)(d:Sml a.natAbs)(e:Sml b.natAbs)(f:(dig 4294967296 a.natAbs).length<2^62)(g:(dig 4294967296 b.natAbs).length<2^62)(i:(dig 4294967296 b.natAbs).length<2^40)(j:a.natAbs≤b.natAbs)(k:Sml (b.natAbs-a.natAbs)):PCall P 202 [J2 a,J2 b] (.agg [.lit (.bool (decide (sgn (decide (b<0)) (b.natAbs-a.natAbs)<0))),.lit (.string (bytesOf (sgn (decide (b<0)) (b.natAbs-a.natAbs)).natAbs))]):=
 j3 (.r 4 (J7 a) (.r 8 (J7 b) (.r 14 (U5 a.natAbs d) (.r 17 (U5 b.natAbs e) (.b 26 h1 (.r 29 (z2y a.natAbs b.natAbs f g) (.b 32 h2 (.r 35 (z9e b.natAbs a.natAbs i j) (.r 38 (U9 (b.natAbs-a.natAbs) (decide (b<0)) k) (.c (lq 2 2) .nil)))))))))) (by kernel_rfl)
theorem zm9(a b:Int)(d:Sml a.natAbs)(e:Sml b.natAbs)(f:(dig 4294967296 a.natAbs).length<2^38)(g:(dig 4294967296 b.natAbs).length<2^38)(i:Sml (a.natAbs*b.natAbs)):PCall P 203 [J2 a,J2 b] (.agg [.lit (.bool (decide (sgn (!decide (a<0)==decide (b<0)) (a.natAbs*b.natAbs)<0))),.lit (.string (bytesOf (sgn (!decide (a<0)==decide (b<0)) (a.natAbs*b.natAbs)).natAbs))]):=
 j3 (.r 4 (J7 a) (.r 8 (J7 b) (.r 14 (U5 a.natAbs d) (.r 17 (U5 b.natAbs e) (.r 18 (zg9 a.natAbs b.natAbs f g) (.r 24 (U9 (a.natAbs*b.natAbs) (!decide (a<0)==decide (b<0)) i) (.c (lq 2 2) .nil))))))) (by kernel_rfl)
end Go.Fw
