/- A part of the proof that the law returns true for every input: an executor for the model's code, and what functions of the program compute. -/
import Derived.Test.YtcafjpldfnegiaaGreatDoorB11
import Derived.Test.YtcafjpldfnegiaaGreatDoorB15
import Derived.Test.YtcafjpldfnegiaaGreatDoorB41
import Derived.Test.YtcafjpldfnegiaaGreatDoorB46
import Derived.KernelRfl
open Go IntKind
namespace Go.Fw
set_option maxRecDepth 100000
theorem zhJ(l:List (Int×Int))(b:Int)(g:z0H l=true)(s3_0:l.length<2^30){R:CV→Prop}(hR:Ok P 67 (loopHead P 67 0) ⟨J1 33 [(1,.cv (.lit (.int .i64 b))),(6,.cv (CV.lit (Value.slice none 0 0))),(12,.cv (.lst l.length (flat rdL l))),(13,.cv (.lit (.int .i64 (↑l.length:Int)))),(14,.cv (.lit (.int .i64 0)))],[]⟩ (.of R)):Y6 P 67 [rdV l,j5 b] R:=
 Y0 (keep:=[1,6,12,13,14]) (σ:=[]) (.r 3 ((z3y (l) s3_0).eqB g) (.o 10 .stop .nil)) (by kernel_rfl) rfl hR .nil
theorem zlE(l:List (Int×Int))(b:Int)(g:z0H l=false)(s3_0:l.length<2^30):PCall P 67 [rdV l,j5 b] (.tup [CV.lit (Value.slice none 0 0),.lit (.int .i64 1)]):=
 j3 (.r 3 ((z3y (l) s3_0).eqB g) .nil) (by kernel_rfl)
theorem zjs(l:List (Int×Int))(b k mi mo:Int)(h1:decide (k<(↑l.length:Int))=true)(o1:(0:Int)≤k∧k<(↑l.length:Int))(o2:List.take 2 (List.drop (k.toNat*2) (flat rdL l))=[.lit (.int .i64 mi),.lit (.int .i64 mo)]){R:Goal}(hn:j8 R.n [5]=true)(hR:Ok P 67 (loopHead P 67 0) ⟨J1 33 [(1,.cv (.lit (.int .i64 b))),(6,.sl 0 0 1 2),(12,.cv (.lst l.length (flat rdL l))),(13,.cv (.lit (.int .i64 (↑l.length:Int)))),(14,.cv (.lit (.int .i64 (i64.wrap (k+1)))))],[some [.cv (.lit (.int .i64 (i64.wrap (mi%24+b%24)%24))),.cv (.lit (.int .i64 mo))]]⟩ R):Ok P 67 (loopHead P 67 0) ⟨J1 33 [(1,.cv (j5 b)),(6,.cv (CV.lit (Value.slice none 0 0))),(12,.cv (rdV l)),(13,.cv (j5 (↑l.length:Int))),(14,.cv (j5 k))],[]⟩ R:=
 z0n (keep:=[1,6,12,13,14]) (σ:=[5]) (.b 2 h1 (.c o1 (.c o2 (.c (eqn 2) (.c (lq 2 2) (.c (z0i (mi)) (.c (z0i (b)) (.c (z0i (i64.wrap (mi%24+b%24))) (.c (lq 16 1099511627776) (.c (lq 1 1099511627776) (.c (show 0<1 from by decide) (.c (eqn 2) (.o 4 (.r (.agg [.lit (.int .i64 mi),.lit (.int .i64 mo)])) (.o 10 (.r (.lit (.int .i64 (mi%24)))) (.o 12 (.r (.lit (.int .i64 (b%24)))) (.o 14 (.r (.lit (.int .i64 (i64.wrap (mi%24+b%24)%24)))) (.o 23 .stop .nil))))))))))))))))) (by kernel_rfl) rfl hn hR (.cons (by simp[CvL]) .nil)
theorem zkr(l:List (Int×Int))(b k _mi _mo:Int)(h1:decide (k<(↑l.length:Int))=false){R:Goal}(hR:R.c (.tup [CV.lit (Value.slice none 0 0),.lit (.int .i64 0)])):Ok P 67 (loopHead P 67 0) ⟨J1 33 [(1,.cv (j5 b)),(6,.cv (CV.lit (Value.slice none 0 0))),(12,.cv (rdV l)),(13,.cv (j5 (↑l.length:Int))),(14,.cv (j5 k))],[]⟩ R:=
 okT (.b 2 h1 .nil) (by kernel_rfl) hR
theorem ziR(l:List (Int×Int))(b k mi mo:Int)(c:Nat)(out:List CV)(h1:decide (k<(↑l.length:Int))=true)(o1:(0:Int)≤k∧k<(↑l.length:Int))(o2:List.take 2 (List.drop (k.toNat*2) (flat rdL l))=[.lit (.int .i64 mi),.lit (.int .i64 mo)])(o8:(c+1)*16≤1099511627776)(o9:c+1≤1099511627776)(o10:(own out).length=c*2)(o11:z6T [.cv (.lit (.int .i64 (i64.wrap (mi%24+b%24)%24))),.cv (.lit (.int .i64 mo))])(o13:CvL (own out++[.cv (.lit (.int .i64 (i64.wrap (mi%24+b%24)%24))),.cv (.lit (.int .i64 mo))])){R:Goal}(hn:j8 R.n [6]=true)(hR:Ok P 67 (loopHead P 67 0) ⟨J1 33 [(1,.cv (.lit (.int .i64 b))),(6,.sl 0 0 (c+1) 2),(12,.cv (.lst l.length (flat rdL l))),(13,.cv (.lit (.int .i64 (↑l.length:Int)))),(14,.cv (.lit (.int .i64 (i64.wrap (k+1)))))],[some (own out++[.cv (.lit (.int .i64 (i64.wrap (mi%24+b%24)%24))),.cv (.lit (.int .i64 mo))])]⟩ R):Ok P 67 (loopHead P 67 0) ⟨J1 33 [(1,.cv (j5 b)),(6,.sl 0 0 c 2),(12,.cv (rdV l)),(13,.cv (j5 (↑l.length:Int))),(14,.cv (j5 k))],[some (own out)]⟩ R:=
 z0n (keep:=[1,6,12,13,14]) (σ:=[6]) (.b 2 h1 (.c o1 (.c o2 (.c (eqn 2) (.c (lq 2 2) (.c (z0i (mi)) (.c (z0i (b)) (.c (z0i (i64.wrap (mi%24+b%24))) (.c o8 (.c o9 (.c o10 (.c o11 (.c (eqn 2) (.o 4 (.r (.agg [.lit (.int .i64 mi),.lit (.int .i64 mo)])) (.o 10 (.r (.lit (.int .i64 (mi%24)))) (.o 12 (.r (.lit (.int .i64 (b%24)))) (.o 14 (.r (.lit (.int .i64 (i64.wrap (mi%24+b%24)%24)))) (.o 23 .stop .nil)))))))))))))))))) (by kernel_rfl) rfl hn hR (.cons o13 .nil)
theorem zkz(l:List (Int×Int))(b k _mi _mo:Int)(c:Nat)(out:List CV)(h1:decide (k<(↑l.length:Int))=false)(o1:List.take (c*2) (List.drop 0 (own out))=List.map MV.cv out){R:Goal}(hR:R.c (.tup [.lst c out,.lit (.int .i64 0)])):Ok P 67 (loopHead P 67 0) ⟨J1 33 [(1,.cv (j5 b)),(6,.sl 0 0 c 2),(12,.cv (rdV l)),(13,.cv (j5 (↑l.length:Int))),(14,.cv (j5 k))],[some (own out)]⟩ R:=
 okT (.b 2 h1 (.c o1 (.o 6 (.r (CV.lit undef) [out]) .nil))) (by kernel_rfl) hR
end Go.Fw
open Go
namespace Go.Fw
set_option maxRecDepth 100000
theorem z8w{α β:Type}(f:β→List CV)(g:α→β)(l:List α):flat f (l.map g)=flat (fun x=>f (g x)) l:=by
 induction l with
 |nil=>rfl
 |cons x l ih=>rw[List.map_cons,z12,z12,ih]
def z3u(b:Int)(x:Int×Int):Int×Int:=((x.1%24+b%24)%24,x.2)
def z22(l:List (Int×Int))(b:Int):List (Int×Int)×Int:=if z0H l then(l.map (z3u b),0)else([],1)
theorem zqM(i b:Int):IntKind.i64.wrap (i%24+b%24)=i%24+b%24:=w64 (by omega)
theorem zik(l:List (Int×Int))(b:Int)(g:z0H l=true):PCall P 67 [rdV l,j5 b] (.tup [rdV (l.map (z3u b)),j5 0]):=by
 obtain⟨hl,_⟩:=z3e g
 cases l with
 | nil => exact z0a (zhJ [] b g (by decide) (R := (· = _)) (zkr [] b 0 0 0 rfl rfl))
 |cons x t=>
  generalize hx:x::t=l at*
  have hne:l≠[]:=by rw[←hx];exact List.cons_ne_nil _ _
  refine zhJ l b g (by omega) (R := (· = _)) ?_
  refine z32 (s:=2) l (fun x=>rdL (z3u b x)) (fun _=>rfl) (fun k o=>Ok P 67 (loopHead P 67 0) (match o with
   |none=>⟨J1 33 [(1,.cv (j5 b)),(6,.cv (.lit (.slice none 0 0))),(12,.cv (rdV l)),(13,.cv (j5 l.length)),(14,.cv (j5 k))],[]⟩
   | some (c, out) => ⟨J1 33 [(1, .cv (j5 b)), (6, .sl 0 0 c 2), (12, .cv (rdV l)), (13, .cv (j5 l.length)), (14, .cv (j5 k))], [some (own out)]⟩) (.of (· = .tup [rdV (l.map (z3u b)), j5 0]))) ?_ ?_ hne ?_
  · intro k hk h
    refine zjs l b k l[k].1 l[k].2 (decide_eq_true (by omega)) (by omega) (U3 z03 hk) rfl ?_
    rw[w64 (n:=(k:Int)+1) (by omega),zqM]
    exact h
  · intro k hk c out hc ho h
    refine ziR l b k l[k].1 l[k].2 c out (decide_eq_true (by omega)) (by omega) (U3 z03 hk) (by omega) (by omega) (by simp[own,ho]) ?_ ?_ rfl ?_
    · simp[z6T,MV.one]
    · exact z7R _ [_,_]
    · rw[w64 (n:=(k:Int)+1) (by omega),zqM]
      have h2 : Ok P 67 (loopHead P 67 0) ⟨J1 33 [(1, .cv (j5 b)), (6, .sl 0 0 (c + 1) 2), (12, .cv (rdV l)), (13, .cv (j5 l.length)), (14, .cv (j5 ((k + 1 : Nat) : Int)))], [some (own (out ++ rdL (z3u b l[k])))]⟩ (.of (· = .tup [rdV (l.map (z3u b)), j5 0])) := h
      rw[z6h]at h2
      exact h2
  · refine zkz l b l.length 0 0 l.length (flat (fun x=>rdL (z3u b x)) l) (decide_eq_false (by omega)) ?_ ?_
    · rw[List.drop_zero,List.take_of_length_le (by simp[own,z0h (f:=fun x=>rdL (z3u b x)) (s:=2) (fun _=>rfl)])];rfl
    · show CV.tup _=CV.tup _
      unfold rdV
      rw[z8w,List.length_map]
theorem zho(l:List (Int×Int))(b:Int)(hl:l.length<2^30):PCall P 67 [rdV l,j5 b] (.tup [rdV (z22 l b).1,j5 (z22 l b).2]):=by
 unfold z22
 cases g:z0H l
 · exact z0a (zlE l b g hl)
 · exact zik l b g
end Go.Fw
open Go
namespace Go.Fw
set_option maxRecDepth 100000
def zrC(v w:V3)(p r:K):V3:=⟨v.x*p+w.x*r,v.y*p+w.y*r,v.z*p+w.z*r⟩
theorem V3.ext{v w:V3}(h1:v.x=w.x)(h2:v.y=w.y)(h3:v.z=w.z):v=w:=by
 cases v;cases w;simp only at h1 h2 h3;subst h1 h2 h3;rfl
end Go.Fw
open Go
namespace Go.Fw
set_option maxRecDepth 100000
theorem zqU(l:List (Int×Int))(hl:l.length<2^30)(h:z0H l=false∨l.length≤12):PCall P 60 [rdV l] (.tup [(z0N l).1.c,j5 (z0N l).2]):=by
 cases g:z0H l
 · have e:z0N l=(.zero,1):=by unfold z0N;rw[g];rfl
   rw[e];exact zdz l g hl
 · rcases h with h|h
   · rw[g]at h;cases h
   · exact zpM l h
end Go.Fw
open Go IntKind
namespace Go.Fw
set_option maxRecDepth 100000
theorem zpg(l:List (Int×Int))(g:((z0N l).snd != 0)=false)(g2:((z7u l (z0N l).fst).snd != 0)=false)(s3_0:l.length<2^30)(s3_1:z0H l=false∨l.length≤12)(s15_0:l.length<2^30)(s15_1:VN.raw 10000 (z0N l).fst=true){R:CV→Prop}(hR:Ok P 84 (loopHead P 84 0) ⟨J1 46 [(6,.cv (.lst (z7u l (z0N l).fst).1.length (flat RN.l (z7u l (z0N l).fst).1))),(7,.cv (.lit (.int .i64 0))),(27,.cv (.lst (z7u l (z0N l).fst).1.length (flat RN.l (z7u l (z0N l).fst).1))),(28,.cv (.lit (.int .i64 (↑(z7u l (z0N l).fst).1.length:Int)))),(29,.cv (.lit (.int .i64 0)))],[]⟩ (.of R)):Y6 P 84 [rdV l] R:=
 Y0 (keep:=[6,7,27,28,29]) (σ:=[]) (.r 3 (zqU (l) s3_0 s3_1) (.c (lq 30 30) (.b 12 g (.r 15 (zpB (l) ((z0N l).fst) s15_0 s15_1) (.b 23 g2 (.o 28 .stop .nil)))))) (by kernel_rfl) rfl hR .nil
theorem zmp(l:List (Int×Int))(g:((z0N l).snd != 0)=true)(s3_0:l.length<2^30)(s3_1:z0H l=false∨l.length≤12):PCall P 84 [rdV l] (.tup [.lit (.int .i64 0),.lit (.int .i64 (z0N l).2)]):=
 j3 (.r 3 (zqU (l) s3_0 s3_1) (.c (lq 30 30) (.b 12 g .nil))) (by kernel_rfl)
theorem zo3(l:List (Int×Int))(g:z0H l=true)(s3_0:l.length<2^30)(s6_0 s6_1 s6_2:(-9223372036854775808:Int)≤0∧(0:Int)≤9223372036854775807){R:CV→Prop}(hR:Ok P 83 (loopHead P 83 0) ⟨J1 106 [(0,.cv (.lst l.length (flat rdL l))),(2,.ptr 0 0),(5,.ptr (0+1) 0),(6,.ptr (0+1+1) 0),(7,.ptr (0+1+1+1) 0),(8,.ptr (0+1+1+1+1) 0),(9,.cv (.lit (.int .i64 0)))],[some (vnM (VN.zero)),some (vnM (oV (0:Int) (0:Int) (0:Int))),some (vnM (oV (0:Int) (0:Int) (0:Int))),some (vnM (oV (0:Int) (0:Int) (0:Int))),some (vnM (oV (0:Int) (0:Int) (0:Int)))]⟩ (.of R)):Y6 P 83 [rdV l] R:=
 Y0 (keep:=[0,2,5,6,7,8,9]) (σ:=[0,4,5,6,7]) (.r 3 ((z2r (l) s3_0).eqB g) (.r 6 (V4Of_r ((0:Int)) ((0:Int)) ((0:Int)) s6_0 s6_1 s6_2) (.c (lq 30 30) (.c (lq 30 30) (.c (lq 30 30) (.c (lq 30 30) (.c (lq 30 30) (.o 22 .stop .nil)))))))) (by kernel_rfl) rfl hR (.cons (CvL.map_cv _) (.cons (CvL.map_cv _) (.cons (CvL.map_cv _) (.cons (CvL.map_cv _) (.cons (CvL.map_cv _) .nil)))))
theorem zlF(l:List (Int×Int))(g:z0H l=false)(s3_0:l.length<2^30):PCall P 83 [rdV l] (.tup [z0I,.lit (.int .i64 1)]):=
 j3 (.r 3 ((z2r (l) s3_0).eqB g) (.c (lq 30 30) .nil)) (by kernel_rfl)
theorem zha(l:List (Int×Int))(b:Int)(g:z0H l=true)(s3_0:l.length<2^30){R:CV→Prop}(hR:Ok P 86 (loopHead P 86 0) ⟨J1 37 [(0,.cv (.lst l.length (flat rdL l))),(1,.cv (.lit (.int .i64 b))),(6,.cv (CV.lit (Value.slice none 0 0))),(7,.cv (.lit (.int .i64 0)))],[]⟩ (.of R)):Y6 P 86 [rdV l,j5 b] R:=
 Y0 (keep:=[0,1,6,7]) (σ:=[]) (.r 3 ((z2r (l) s3_0).eqB g) (.o 8 .stop .nil)) (by kernel_rfl) rfl hR .nil
theorem zm1(l:List (Int×Int))(b:Int)(g:z0H l=false)(s3_0:l.length<2^30):PCall P 86 [rdV l,j5 b] (.tup [CV.lit (Value.slice none 0 0),.lit (.int .i64 1)]):=
 j3 (.r 3 ((z2r (l) s3_0).eqB g) .nil) (by kernel_rfl)
theorem znA(l m:List (Int×Int))(g:((↑l.length:Int) != (↑m.length:Int))=false){R:CV→Prop}(hR:Ok P 87 (loopHead P 87 0) ⟨J1 26 [(0,.cv (.lst l.length (flat rdL l))),(1,.cv (.lst m.length (flat rdL m))),(5,.cv (.lit (.int .i64 0)))],[]⟩ (.of R)):Y6 P 87 [rdV l,rdV m] R:=
 Y0 (keep:=[0,1,5]) (σ:=[]) (.b 6 g (.o 8 .stop .nil)) (by kernel_rfl) rfl hR .nil
end Go.Fw
open Go IntKind
namespace Go.Fw
set_option maxRecDepth 100000
theorem zi8(rs:List RN)(k ka:Int)(mx ma:RN)(h1:decide (k<(↑rs.length:Int))=true)(h2:decide (z9n (z0P mx) (z0P ma)>0)=true)(s10_0:RN.raw 1000000 mx=true)(s15_0:RN.raw 1000000 ma=true)(s16_0:RN.raw 100000 (z0P mx)=true)(s16_1:RN.raw 100000 (z0P ma)=true)(o1:(0:Int)≤k∧k<(↑rs.length:Int))(o2:List.take 10 (List.drop (k.toNat*10) (flat RN.l rs))=(RN.l mx))(o6:(0:Int)≤ka∧ka<(↑rs.length:Int))(o7:List.take 10 (List.drop (ka.toNat*10) (flat RN.l rs))=(RN.l ma)){R:Goal}(hn:j8 R.n []=true)(hR:Ok P 84 (loopHead P 84 0) ⟨J1 46 [(6,.cv (.lst rs.length (flat RN.l rs))),(7,.cv (.lit (.int .i64 k))),(27,.cv (.lst rs.length (flat RN.l rs))),(28,.cv (.lit (.int .i64 (↑rs.length:Int)))),(29,.cv (.lit (.int .i64 (i64.wrap (k+1)))))],[]⟩ R):Ok P 84 (loopHead P 84 0) ⟨J1 46 [(6,.cv (nmV rs)),(7,.cv (j5 ka)),(27,.cv (nmV rs)),(28,.cv (j5 (↑rs.length:Int))),(29,.cv (j5 k))],[]⟩ R:=
 z0n (keep:=[6,7,27,28,29]) (σ:=[]) (.b 2 h1 (.c o1 (.c o2 (.c (eqn 10) (.c (lq 10 10) (.c (zaG (mx) s10_0) (.c o6 (.c o7 (.c (eqn 10) (.c (zaG (ma) s15_0) (.c (zhM (z0P mx) (z0P ma) s16_0 s16_1) (.o 5 (.r mx.c) (.o 10 (.r (RN.c (z0P mx))) (.o 14 (.r ma.c) (.o 15 (.r (RN.c (z0P ma))) (.o 16 (.r (.lit (.int .i64 (z9n (z0P mx) (z0P ma))))) (.b 18 h2 (.o 23 .stop .nil)))))))))))))))))) (by kernel_rfl) rfl hn hR .nil
theorem zlm(rs:List RN)(k ka:Int)(mx ma:RN)(h1:decide (k<(↑rs.length:Int))=true)(h2:decide (z9n (z0P mx) (z0P ma)>0)=false)(s10_0:RN.raw 1000000 mx=true)(s15_0:RN.raw 1000000 ma=true)(s16_0:RN.raw 100000 (z0P mx)=true)(s16_1:RN.raw 100000 (z0P ma)=true)(o1:(0:Int)≤k∧k<(↑rs.length:Int))(o2:List.take 10 (List.drop (k.toNat*10) (flat RN.l rs))=(RN.l mx))(o6:(0:Int)≤ka∧ka<(↑rs.length:Int))(o7:List.take 10 (List.drop (ka.toNat*10) (flat RN.l rs))=(RN.l ma)){R:Goal}(hn:j8 R.n []=true)(hR:Ok P 84 (loopHead P 84 0) ⟨J1 46 [(6,.cv (.lst rs.length (flat RN.l rs))),(7,.cv (.lit (.int .i64 ka))),(27,.cv (.lst rs.length (flat RN.l rs))),(28,.cv (.lit (.int .i64 (↑rs.length:Int)))),(29,.cv (.lit (.int .i64 (i64.wrap (k+1)))))],[]⟩ R):Ok P 84 (loopHead P 84 0) ⟨J1 46 [(6,.cv (nmV rs)),(7,.cv (j5 ka)),(27,.cv (nmV rs)),(28,.cv (j5 (↑rs.length:Int))),(29,.cv (j5 k))],[]⟩ R:=
 z0n (keep:=[6,7,27,28,29]) (σ:=[]) (.b 2 h1 (.c o1 (.c o2 (.c (eqn 10) (.c (lq 10 10) (.c (zaG (mx) s10_0) (.c o6 (.c o7 (.c (eqn 10) (.c (zaG (ma) s15_0) (.c (zhM (z0P mx) (z0P ma) s16_0 s16_1) (.o 5 (.r mx.c) (.o 10 (.r (RN.c (z0P mx))) (.o 14 (.r ma.c) (.o 15 (.r (RN.c (z0P ma))) (.o 16 (.r (.lit (.int .i64 (z9n (z0P mx) (z0P ma))))) (.b 18 h2 (.o 21 .stop .nil)))))))))))))))))) (by kernel_rfl) rfl hn hR .nil
theorem zlO(rs:List RN)(k ka:Int)(_mx _ma:RN)(h1:decide (k<(↑rs.length:Int))=false){R:Goal}(hR:R.c (.tup [.lit (.int .i64 ka),.lit (.int .i64 0)])):Ok P 84 (loopHead P 84 0) ⟨J1 46 [(6,.cv (nmV rs)),(7,.cv (j5 ka)),(27,.cv (nmV rs)),(28,.cv (j5 (↑rs.length:Int))),(29,.cv (j5 k))],[]⟩ R:=
 okT (.b 2 h1 .nil) (by kernel_rfl) hR
theorem zmd(l:List (Int×Int))(a b c d:VN)(k mi mo:Int)(h:decide (k<(↑l.length:Int))=true)(s18_0:VN.raw 1000000 (Z0 mi)=true)(s18_1:RN.raw 1000000 (Z0 mi).x=true)(s19_0:VN.raw 1000000 a=true)(s19_1:VN.raw 1000000 (J2 (Z0 mi) (Z0 mi).x)=true)(s25_0:VN.raw 1000000 (Z0 mi)=true)(s25_1:RN.raw 1000000 (Z0 mi).y=true)(s26_0:VN.raw 1000000 b=true)(s26_1:VN.raw 1000000 (J2 (Z0 mi) (Z0 mi).y)=true)(s32_0:VN.raw 1000000 (Z0 mi)=true)(s32_1:RN.raw 1000000 (Z0 mi).z=true)(s33_0:VN.raw 1000000 c=true)(s33_1:VN.raw 1000000 (J2 (Z0 mi) (Z0 mi).z)=true)(s42_0:(-9223372036854775808:Int)≤mo∧mo≤9223372036854775807)(s43_0:VN.raw 1000000 (Z0 mi)=true)(s43_1:RN.raw 1000000 (oN mo)=true)(s44_0:VN.raw 1000000 d=true)(s44_1:VN.raw 1000000 (J2 (Z0 mi) (oN mo))=true)(o1:(0:Int)≤k∧k<(↑l.length:Int))(o2:(flat rdL l)[k.toNat*2+0]?=some (.lit (.int .i64 mi)))(o15:(0:Int)≤k∧k<(↑l.length:Int))(o16:(flat rdL l)[k.toNat*2+1]?=some (.lit (.int .i64 mo))){R:Goal}(hn:j8 R.n [0,1,2,3,4]=true)(hR:Ok P 83 (loopHead P 83 0) ⟨J1 106 [(0,.cv (.lst l.length (flat rdL l))),(2,.ptr 0 0),(5,.ptr (0+1) 0),(6,.ptr (0+1+1) 0),(7,.ptr (0+1+1+1) 0),(8,.ptr (0+1+1+1+1) 0),(9,.cv (.lit (.int .i64 (i64.wrap (k+1)))))],[some (vnM (VN.zero)),some (vnM (z05 a (J2 (Z0 mi) (Z0 mi).x))),some (vnM (z05 b (J2 (Z0 mi) (Z0 mi).y))),some (vnM (z05 c (J2 (Z0 mi) (Z0 mi).z))),some (vnM (z05 d (J2 (Z0 mi) (oN mo))))]⟩ R):Ok P 83 (loopHead P 83 0) ⟨J1 106 [(0,.cv (rdV l)),(2,.ptr 0 0),(5,.ptr 1 0),(6,.ptr 2 0),(7,.ptr 3 0),(8,.ptr 4 0),(9,.cv (j5 k))],[some (vnM VN.zero),some (vnM a),some (vnM b),some (vnM c),some (vnM d)]⟩ R:=
 z0n (keep:=[0,2,5,6,7,8,9]) (σ:=[0,1,2,3,4]) (.b 5 h (.c o1 (.l 10 o2 (.c (eqn 1) (.c (zhn (mi)) (.c (lq 30 30) (.c (z3O (Z0 mi) ((Z0 mi).x) s18_0 s18_1) (.c (z7J (a) (J2 (Z0 mi) (Z0 mi).x) s19_0 s19_1) (.c (lq 30 30) (.c (z3O (Z0 mi) ((Z0 mi).y) s25_0 s25_1) (.c (z7J (b) (J2 (Z0 mi) (Z0 mi).y) s26_0 s26_1) (.c (lq 30 30) (.c (z3O (Z0 mi) ((Z0 mi).z) s32_0 s32_1) (.c (z7J (c) (J2 (Z0 mi) (Z0 mi).z) s33_0 s33_1) (.c (lq 30 30) (.c o15 (.c o16 (.c (eqn 1) (.c (zeX (mo) s42_0) (.c (z3O (Z0 mi) (oN mo) s43_0 s43_1) (.c (z7J (d) (J2 (Z0 mi) (oN mo)) s44_0 s44_1) (.c (lq 30 30) (.o 11 (.r (z39 (Z0 mi).x (Z0 mi).y (Z0 mi).z)) (.o 18 (.r (z39 (J2 (Z0 mi) (Z0 mi).x).x (J2 (Z0 mi) (Z0 mi).x).y (J2 (Z0 mi) (Z0 mi).x).z)) (.o 19 (.r (z39 (z05 a (J2 (Z0 mi) (Z0 mi).x)).x (z05 a (J2 (Z0 mi) (Z0 mi).x)).y (z05 a (J2 (Z0 mi) (Z0 mi).x)).z)) (.o 25 (.r (z39 (J2 (Z0 mi) (Z0 mi).y).x (J2 (Z0 mi) (Z0 mi).y).y (J2 (Z0 mi) (Z0 mi).y).z)) (.o 26 (.r (z39 (z05 b (J2 (Z0 mi) (Z0 mi).y)).x (z05 b (J2 (Z0 mi) (Z0 mi).y)).y (z05 b (J2 (Z0 mi) (Z0 mi).y)).z)) (.o 32 (.r (z39 (J2 (Z0 mi) (Z0 mi).z).x (J2 (Z0 mi) (Z0 mi).z).y (J2 (Z0 mi) (Z0 mi).z).z)) (.o 33 (.r (z39 (z05 c (J2 (Z0 mi) (Z0 mi).z)).x (z05 c (J2 (Z0 mi) (Z0 mi).z)).y (z05 c (J2 (Z0 mi) (Z0 mi).z)).z)) (.o 41 (.r (.lit (.int .i64 mo))) (.o 42 (.r (RN.c (oN mo))) (.o 43 (.r (z39 (J2 (Z0 mi) (oN mo)).x (J2 (Z0 mi) (oN mo)).y (J2 (Z0 mi) (oN mo)).z)) (.o 44 (.r (z39 (z05 d (J2 (Z0 mi) (oN mo))).x (z05 d (J2 (Z0 mi) (oN mo))).y (z05 d (J2 (Z0 mi) (oN mo))).z)) (.o 49 .stop .nil)))))))))))))))))))))))))))))))))) (by kernel_rfl) rfl hn hR (.cons (CvL.map_cv _) (.cons (CvL.map_cv _) (.cons (CvL.map_cv _) (.cons (CvL.map_cv _) (.cons (CvL.map_cv _) .nil)))))
theorem zmc(l:List (Int×Int))(a b c d:VN)(k:Int)(h:decide (k<(↑l.length:Int))=false)(hs:(z50 (Z8 a b c)==0)=true)(s9_0:a.ok=true)(s9_1:b.ok=true)(s9_2:c.ok=true)(s9_3:VN.raw 200 a=true)(s9_4:VN.raw 200 b=true)(s9_5:VN.raw 200 c=true)(s13_0:RN.raw 1000000 (Z8 a b c)=true){R:Goal}(hR:R.c (.tup [z0I,.lit (.int .i64 20)])):Ok P 83 (loopHead P 83 0) ⟨J1 106 [(0,.cv (rdV l)),(2,.ptr 0 0),(5,.ptr 1 0),(6,.ptr 2 0),(7,.ptr 3 0),(8,.ptr 4 0),(9,.cv (j5 k))],[some (vnM VN.zero),some (vnM a),some (vnM b),some (vnM c),some (vnM d)]⟩ R:=
 okT (.b 5 h (.r 9 (z8U (a) (b) (c) s9_0 s9_1 s9_2 s9_3 s9_4 s9_5) (.c (lq 10 10) (.r 13 (z5K (Z8 a b c) s13_0) (.b 15 hs (.c (lq 30 30) .nil)))))) (by kernel_rfl) hR
theorem zlY(l:List (Int×Int))(a b c d:VN)(k:Int)(h:decide (k<(↑l.length:Int))=false)(hs:(z50 (Z8 a b c)==0)=false)(s9_0:a.ok=true)(s9_1:b.ok=true)(s9_2:c.ok=true)(s9_3:VN.raw 200 a=true)(s9_4:VN.raw 200 b=true)(s9_5:VN.raw 200 c=true)(s13_0:RN.raw 1000000 (Z8 a b c)=true)(s19_0:d.ok=true)(s19_1:b.ok=true)(s19_2:c.ok=true)(s19_3:VN.raw 200 d=true)(s19_4:VN.raw 200 b=true)(s19_5:VN.raw 200 c=true)(s21_0:RN.raw 1000000 (Z8 d b c)=true)(s21_1:RN.raw 1000000 (Z8 a b c)=true)(s31_0:a.ok=true)(s31_1:d.ok=true)(s31_2:c.ok=true)(s31_3:VN.raw 200 a=true)(s31_4:VN.raw 200 d=true)(s31_5:VN.raw 200 c=true)(s33_0:RN.raw 1000000 (Z8 a d c)=true)(s33_1:RN.raw 1000000 (Z8 a b c)=true)(s43_0:a.ok=true)(s43_1:b.ok=true)(s43_2:d.ok=true)(s43_3:VN.raw 200 a=true)(s43_4:VN.raw 200 b=true)(s43_5:VN.raw 200 d=true)(s45_0:RN.raw 1000000 (Z8 a b d)=true)(s45_1:RN.raw 1000000 (Z8 a b c)=true){R:Goal}(hR:R.c (.tup [z39 (z17 (Z8 d b c) (Z8 a b c)).fst (z17 (Z8 a d c) (Z8 a b c)).fst (z17 (Z8 a b d) (Z8 a b c)).fst,.lit (.int .i64 0)])):Ok P 83 (loopHead P 83 0) ⟨J1 106 [(0,.cv (rdV l)),(2,.ptr 0 0),(5,.ptr 1 0),(6,.ptr 2 0),(7,.ptr 3 0),(8,.ptr 4 0),(9,.cv (j5 k))],[some (vnM VN.zero),some (vnM a),some (vnM b),some (vnM c),some (vnM d)]⟩ R:=
 okT (.b 5 h (.r 9 (z8U (a) (b) (c) s9_0 s9_1 s9_2 s9_3 s9_4 s9_5) (.c (lq 10 10) (.r 13 (z5K (Z8 a b c) s13_0) (.b 15 hs (.r 19 (z8U (d) (b) (c) s19_0 s19_1 s19_2 s19_3 s19_4 s19_5) (.r 21 (ze3 (Z8 d b c) (Z8 a b c) s21_0 s21_1) (.c (lq 10 10) (.r 31 (z8U (a) (d) (c) s31_0 s31_1 s31_2 s31_3 s31_4 s31_5) (.r 33 (ze3 (Z8 a d c) (Z8 a b c) s33_0 s33_1) (.c (lq 10 10) (.r 43 (z8U (a) (b) (d) s43_0 s43_1 s43_2 s43_3 s43_4 s43_5) (.r 45 (ze3 (Z8 a b d) (Z8 a b c) s45_0 s45_1) (.c (lq 10 10) (.c (lq 30 30) .nil))))))))))))))) (by kernel_rfl) hR
theorem ziM(l:List (Int×Int))(b k mi mo:Int)(h1:decide (k<(↑l.length:Int))=true)(o1:(0:Int)≤k∧k<(↑l.length:Int))(o2:(flat rdL l)[k.toNat*2+0]?=some (.lit (.int .i64 mi)))(o7:(0:Int)≤k∧k<(↑l.length:Int))(o8:(flat rdL l)[k.toNat*2+1]?=some (.lit (.int .i64 mo))){R:Goal}(hn:j8 R.n [4]=true)(hR:Ok P 86 (loopHead P 86 0) ⟨J1 37 [(0,.cv (.lst l.length (flat rdL l))),(1,.cv (.lit (.int .i64 b))),(6,.sl 0 0 1 2),(7,.cv (.lit (.int .i64 (i64.wrap (k+1)))))],[some [.cv (.lit (.int .i64 (i64.wrap (mi%24+b%24)%24))),.cv (.lit (.int .i64 mo))]]⟩ R):Ok P 86 (loopHead P 86 0) ⟨J1 37 [(0,.cv (rdV l)),(1,.cv (j5 b)),(6,.cv (CV.lit (Value.slice none 0 0))),(7,.cv (j5 k))],[]⟩ R:=
 z0n (keep:=[0,1,6,7]) (σ:=[4]) (.b 5 h1 (.c o1 (.l 11 o2 (.c (eqn 1) (.c (Z3 (mi)) (.c (Z3 (b)) (.c (Z3 (i64.wrap (mi%24+b%24))) (.c o7 (.c o8 (.c (eqn 1) (.c (lq 16 1099511627776) (.c (lq 1 1099511627776) (.c (show 0<1 from by decide) (.c (eqn 2) (.o 12 (.r (.lit (.int .i64 (mi%24)))) (.o 14 (.r (.lit (.int .i64 (b%24)))) (.o 16 (.r (.lit (.int .i64 (i64.wrap (mi%24+b%24)%24)))) (.o 21 (.r (.lit (.int .i64 mo))) (.o 29 .stop .nil))))))))))))))))))) (by kernel_rfl) rfl hn hR (.cons (by simp[CvL]) .nil)
theorem zj9(l:List (Int×Int))(b k _mi _mo:Int)(h1:decide (k<(↑l.length:Int))=false){R:Goal}(hR:R.c (.tup [CV.lit (Value.slice none 0 0),.lit (.int .i64 0)])):Ok P 86 (loopHead P 86 0) ⟨J1 37 [(0,.cv (rdV l)),(1,.cv (j5 b)),(6,.cv (CV.lit (Value.slice none 0 0))),(7,.cv (j5 k))],[]⟩ R:=
 okT (.b 5 h1 .nil) (by kernel_rfl) hR
theorem zig(l:List (Int×Int))(b k mi mo:Int)(c:Nat)(out:List CV)(h1:decide (k<(↑l.length:Int))=true)(o1:(0:Int)≤k∧k<(↑l.length:Int))(o2:(flat rdL l)[k.toNat*2+0]?=some (.lit (.int .i64 mi)))(o7:(0:Int)≤k∧k<(↑l.length:Int))(o8:(flat rdL l)[k.toNat*2+1]?=some (.lit (.int .i64 mo)))(o10:(c+1)*16≤1099511627776)(o11:c+1≤1099511627776)(o12:(own out).length=c*2)(o13:z6T [.cv (.lit (.int .i64 (i64.wrap (mi%24+b%24)%24))),.cv (.lit (.int .i64 mo))])(o15:CvL (own out++[.cv (.lit (.int .i64 (i64.wrap (mi%24+b%24)%24))),.cv (.lit (.int .i64 mo))])){R:Goal}(hn:j8 R.n [5]=true)(hR:Ok P 86 (loopHead P 86 0) ⟨J1 37 [(0,.cv (.lst l.length (flat rdL l))),(1,.cv (.lit (.int .i64 b))),(6,.sl 0 0 (c+1) 2),(7,.cv (.lit (.int .i64 (i64.wrap (k+1)))))],[some (own out++[.cv (.lit (.int .i64 (i64.wrap (mi%24+b%24)%24))),.cv (.lit (.int .i64 mo))])]⟩ R):Ok P 86 (loopHead P 86 0) ⟨J1 37 [(0,.cv (rdV l)),(1,.cv (j5 b)),(6,.sl 0 0 c 2),(7,.cv (j5 k))],[some (own out)]⟩ R:=
 z0n (keep:=[0,1,6,7]) (σ:=[5]) (.b 5 h1 (.c o1 (.l 11 o2 (.c (eqn 1) (.c (Z3 (mi)) (.c (Z3 (b)) (.c (Z3 (i64.wrap (mi%24+b%24))) (.c o7 (.c o8 (.c (eqn 1) (.c o10 (.c o11 (.c o12 (.c o13 (.c (eqn 2) (.o 12 (.r (.lit (.int .i64 (mi%24)))) (.o 14 (.r (.lit (.int .i64 (b%24)))) (.o 16 (.r (.lit (.int .i64 (i64.wrap (mi%24+b%24)%24)))) (.o 21 (.r (.lit (.int .i64 mo))) (.o 29 .stop .nil)))))))))))))))))))) (by kernel_rfl) rfl hn hR (.cons o15 .nil)
theorem zjo(l:List (Int×Int))(b k _mi _mo:Int)(c:Nat)(out:List CV)(h1:decide (k<(↑l.length:Int))=false)(o1:List.take (c*2) (List.drop 0 (own out))=List.map MV.cv out){R:Goal}(hR:R.c (.tup [.lst c out,.lit (.int .i64 0)])):Ok P 86 (loopHead P 86 0) ⟨J1 37 [(0,.cv (rdV l)),(1,.cv (j5 b)),(6,.sl 0 0 c 2),(7,.cv (j5 k))],[some (own out)]⟩ R:=
 okT (.b 5 h1 (.c o1 (.o 9 (.r (CV.lit undef) [out]) .nil))) (by kernel_rfl) hR
theorem ziP(l:List (Int×Int))(k mi mo:Int)(h1:decide (k<(↑l.length:Int))=true)(h2:(!(mi==mi&&(mo==mo&&true)))=false)(o1:(0:Int)≤k∧k<(↑l.length:Int))(o2:List.take 2 (List.drop (k.toNat*2) (flat rdL l))=[.lit (.int .i64 mi),.lit (.int .i64 mo)])(o4:(0:Int)≤k∧k<(↑l.length:Int))(o5:List.take 2 (List.drop (k.toNat*2) (flat rdL l))=[.lit (.int .i64 mi),.lit (.int .i64 mo)]){R:Goal}(hn:j8 R.n []=true)(hR:Ok P 87 (loopHead P 87 0) ⟨J1 26 [(0,.cv (.lst l.length (flat rdL l))),(1,.cv (.lst l.length (flat rdL l))),(5,.cv (.lit (.int .i64 (i64.wrap (k+1)))))],[]⟩ R):Ok P 87 (loopHead P 87 0) ⟨J1 26 [(0,.cv (rdV l)),(1,.cv (rdV l)),(5,.cv (j5 k))],[]⟩ R:=
 z0n (keep:=[0,1,5]) (σ:=[]) (.b 5 h1 (.c o1 (.c o2 (.c (eqn 2) (.c o4 (.c o5 (.c (eqn 2) (.o 9 (.r (.agg [.lit (.int .i64 mi),.lit (.int .i64 mo)])) (.o 13 (.r (.agg [.lit (.int .i64 mi),.lit (.int .i64 mo)])) (.b 15 h2 (.o 19 .stop .nil))))))))))) (by kernel_rfl) rfl hn hR .nil
theorem zia(l:List (Int×Int))(k _mi _mo:Int)(h1:decide (k<(↑l.length:Int))=false){R:Goal}(hR:R.c (.lit (.bool true))):Ok P 87 (loopHead P 87 0) ⟨J1 26 [(0,.cv (rdV l)),(1,.cv (rdV l)),(5,.cv (j5 k))],[]⟩ R:=
 okT (.b 5 h1 .nil) (by kernel_rfl) hR
end Go.Fw
open Go
namespace Go.Fw
set_option maxRecDepth 100000
noncomputable def zlN(l:List (Int×Int))(k:Nat)(s:S4):St:=⟨J1 106 [(0,.cv (rdV l)),(2,.ptr 0 0),(5,.ptr 1 0),(6,.ptr 2 0),(7,.ptr 3 0),(8,.ptr 4 0),(9,.cv (j5 k))],[some (vnM VN.zero),some (vnM (kv s.a)),some (vnM (kv s.b)),some (vnM (kv s.c)),some (vnM (kv s.d))]⟩
theorem z3V{l:List (Int×Int)}{k:Nat}(hk:k<l.length):(flat rdL l)[(k:Int).toNat*2+0]?=some (j5 l[k].1):=by
 rw[Int.toNat_natCast,z9l z03 hk (by decide)];rfl
theorem zfe{R:Goal}(hn:j8 R.n [0,1,2,3,4]=true)(l:List (Int×Int))(g:z0H l=true)(hR:Ok P 83 (loopHead P 83 0) (zlN l l.length (z0w l)) R):Ok P 83 (loopHead P 83 0) (zlN l 0 .zero) R:=by
 have hl:=(z3e g).1
 have key:=z4v (fun k=>Ok P 83 (loopHead P 83 0) (zlN l k (z0w (l.take k))) R) l.length ?_ ?_
 · exact key
 · intro k hk h
   obtain⟨⟨h1,h2,h3⟩,h4⟩:=z85 g k (by omega)
   have hb:=(z3e g).2 k hk
   have up: ∀{v:V3} {n:Nat},sz3 v n→n≤1000000→(kv v).raw 1000000=true:=fun hv hn=>z6p (z0c hv hn)
   have r1:=z4C l[k].1
   obtain⟨rx,ry,rz⟩:=z0s.1 r1
   have rr:(Z0 l[k].1).raw 1000000=true:=VN.raw_mono r1 (by decide)
   have o2:=z6i (n:=2) (z53 hb)
   have u: ∀{x:RN},x.raw 1=true→x.raw 1000000=true:=fun h=>RN.raw_mono h (by decide)
   have w: ∀{x:RN},x.raw 2=true→(J2 (Z0 l[k].1) x).raw 1000000=true:=fun h=>VN.raw_mono (z28 (VN.raw_mono r1 (show 1≤2 by decide)) h) (by decide)
   have v: ∀{x:RN},x.raw 1=true→x.raw 2=true:=fun h=>RN.raw_mono h (by decide)
   refine zmd l _ _ _ _ k l[k].1 l[k].2 (decide_eq_true (by omega)) rr (u rx) (up h1 (by omega)) (w (v rx)) rr (u ry) (up h2 (by omega)) (w (v ry)) rr (u rz) (up h3 (by omega)) (w (v rz)) (by omega) rr (RN.raw_mono o2 (by decide)) (up h4 (by omega)) (w o2) (by omega) (z3V hk) (by omega) (z1L hk) hn ?_
   rw[zhs,zhv,zhB,zhh,w64 (by omega)]
   rw[z65 hk]at h
   exact h
 · rw[List.take_length];exact hR
theorem zaq(l:List (Int×Int))(hl:l.length<2^30)(hd:z0H l=false∨l.length≤12):PCall P 83 [rdV l] (.tup [(z0N l).1.c,j5 (z0N l).2]):=by
 unfold z0N
 cases g:z0H l
 · exact zlF l g hl
 rw[if_pos rfl]
 have hl12:l.length≤12:=by
  rcases hd with h|h
  · rw[g]at h;cases h
  · exact h
 obtain⟨⟨h1,h2,h3⟩,h4⟩:=z7e g hl12
 have t: ∀{v:V3},sz3 v 61→(kv v).raw 200=true:=fun hv=>z6p (z0c hv (by decide))
 have ed:z50 (Z8 (kv (z0w l).a) (kv (z0w l).b) (kv (z0w l).c))=K.sgn (z8u (z0w l).a (z0w l).b (z0w l).c):=by rw[z1E,zaT]
 have dr: ∀{a b c:V3},sz3 a 61→sz3 b 61→sz3 c 61→(Z8 (kv a) (kv b) (kv c)).raw 1000000=true:=fun ha hb hc=>by
  rw[z1E]
  exact z40 (Nat.le_trans (z6K ha hb hc) (by decide))
 have o:=zn3
 refine X2 (zo3 l g (by omega) (by decide) (by decide) (by decide) ?_)
 rw[zrM]
 refine zfe rfl l g ?_
 by_cases hs:K.sgn (z8u (z0w l).a (z0w l).b (z0w l).c)=0
 · rw[if_pos hs]
   exact zmc l _ _ _ _ l.length (decide_eq_false (by omega)) (beq_iff_eq.2 (ed.trans hs)) (o _) (o _) (o _) (t h1) (t h2) (t h3) (dr h1 h2 h3) rfl
 · rw[if_neg hs]
   refine zlY l _ _ _ _ l.length (decide_eq_false (by omega)) (zrO (by rw[ed];exact hs)) (o _) (o _) (o _) (t h1) (t h2) (t h3) (dr h1 h2 h3) (o _) (o _) (o _) (t h4) (t h2) (t h3) (dr h4 h2 h3) (dr h1 h2 h3) (o _) (o _) (o _) (t h1) (t h4) (t h3) (dr h1 h4 h3) (dr h1 h2 h3) (o _) (o _) (o _) (t h1) (t h2) (t h4) (dr h1 h2 h4) (dr h1 h2 h3) ?_
   rw[z1E,z1E,z1E,z1E,z6L _ _ hs,z6L _ _ hs,z6L _ _ hs]
   rfl
theorem zkc(l:List (Int×Int))(m:VN)(g:z0H l=true)(g2:m.ok=true)(hm:m.raw 10000=true):PCall P 113 [rdV l,m.c] (.tup [nmV (l.map (z2X m)),j5 0]):=by
 have h6:=VN.raw_mono hm (show 10000≤1000000 by decide)
 obtain⟨hl,hb⟩:=z3e g
 have hd: ∀i,(z38 m (Z0 i)).raw 1000000=true:=fun i=>RN.raw_mono (z9k hm (z4C i)) (by decide)
 have hp: ∀i,(z2b m i).1=z38 m (Z0 i):=fun i=>by unfold z2b;rw[g2];rfl
 cases l with
 | nil => exact z0a (zhP [] m g g2 (by decide) h6 (R := (· = _)) (zmn [] m 0 0 0 rfl rfl))
 |cons x t=>
  generalize hx:x::t=l at*
  have hne:l≠[]:=by rw[←hx];exact List.cons_ne_nil _ _
  refine zhP l m g g2 (by omega) h6 (R := (· = _)) ?_
  refine z32 (s:=10) l (fun x=>(z2X m x).l) (fun _=>rfl) (fun k o=>Ok P 113 (loopHead P 113 0) (match o with
   |none=>⟨J1 46 [(0,.cv (rdV l)),(3,.ptr 0 0),(6,.cv (.lit (.slice none 0 0))),(7,.cv (j5 k))],[some (vnM m)]⟩
   | some (c, out) => ⟨J1 46 [(0, .cv (rdV l)), (3, .ptr 0 0), (6, .sl 1 0 c 10), (7, .cv (j5 k))], [some (vnM m), some (own out)]⟩) (.of (· = .tup [nmV (l.map (z2X m)), j5 0]))) ?_ ?_ hne ?_
  · intro k hk h
    have b:=hb k hk
    refine zkq l m k l[k].1 l[k].2 (decide_eq_true (by omega)) hm (by omega) (z6i (Nat.le_trans (z53 b) (by decide))) (by rw[hp];exact hd _) (by omega) (z3V hk) (by omega) (z1L hk) rfl ?_
    rw[w64 (by omega),hp]
    exact h
  · intro k hk c out hc ho h
    have b:=hb k hk
    refine zjI l m k l[k].1 l[k].2 c out (decide_eq_true (by omega)) hm (by omega) (z6i (Nat.le_trans (z53 b) (by decide))) (by rw[hp];exact hd _) (by omega) (z3V hk) (by omega) (z1L hk) (by omega) (by omega) (by simp[own,ho]) (by simp[z6T,MV.one,own,RN.l]) (z7R _ _) rfl ?_
    rw[w64 (by omega),hp]
    have h2 : Ok P 113 (loopHead P 113 0) ⟨J1 46 [(0, .cv (rdV l)), (3, .ptr 0 0), (6, .sl 1 0 (c + 1) 10), (7, .cv (j5 ((k + 1 : Nat) : Int)))], [some (vnM m), some (own (out ++ (z2X m l[k]).l))]⟩ (.of (· = .tup [nmV (l.map (z2X m)), j5 0])) := h
    rw[z6h]at h2
    exact h2
  · refine zkM l m l.length 0 0 l.length (flat (fun x=>(z2X m x).l) l) (decide_eq_false (by omega)) ?_ ?_
    · rw[List.drop_zero,List.take_of_length_le (by simp[own,z0h (f:=fun x=>(z2X m x).l) (s:=10) (fun _=>rfl)])];rfl
    · show CV.tup _=CV.tup _
      unfold nmV
      rw[zb0,List.length_map]
theorem zmj(l:List (Int×Int))(m:VN)(hl:l.length<2^30)(hm:m.raw 10000=true):PCall P 113 [rdV l,m.c] (.tup [nmV (z7u l m).1,j5 (z7u l m).2]):=by
 unfold z7u
 cases g:z0H l
 · exact z0a (zjh l m g hl)
 cases g2:m.ok
 · exact z0a (zk4 l m g g2 hl (VN.raw_mono hm (by decide)))
 · exact zkc l m g g2 hm
end Go.Fw
open Go IntKind
namespace Go.Fw
set_option maxRecDepth 100000
theorem zo4(l:List (Int×Int))(g:((z0N l).snd != 0)=false)(s3_0:l.length<2^30)(s3_1:z0H l=false∨l.length≤12)(s15_0:l.length<2^30)(s15_1:VN.raw 10000 (z0N l).fst=true){R:CV→Prop}(hR:Ok P 85 (loopHead P 85 0) ⟨J1 44 [(6,.cv (.lst (z7u l (z0N l).fst).1.length (flat RN.l (z7u l (z0N l).fst).1))),(8,.cv (.lit (.int .i64 0))),(9,.cv (.lit (.int .i64 1)))],[]⟩ (.of R)):Y6 P 85 [rdV l] R:=
 Y0 (keep:=[6,8,9]) (σ:=[]) (.r 3 (zaq (l) s3_0 s3_1) (.c (lq 30 30) (.b 12 g (.r 15 (zmj (l) ((z0N l).fst) s15_0 s15_1) (.o 23 .stop .nil))))) (by kernel_rfl) rfl hR .nil
theorem zhT(l:List (Int×Int))(g:((z0N l).snd != 0)=true)(s3_0:l.length<2^30)(s3_1:z0H l=false∨l.length≤12):PCall P 85 [rdV l] (.tup [.lit (.int .i64 0),.lit (.int .i64 (z0N l).2)]):=
 j3 (.r 3 (zaq (l) s3_0 s3_1) (.c (lq 30 30) (.b 12 g .nil))) (by kernel_rfl)
end Go.Fw
open Go IntKind
namespace Go.Fw
set_option maxRecDepth 100000
theorem zjC(rs:List RN)(k ka:Int)(mx ma:RN)(h1:decide (k<(↑rs.length:Int))=true)(h2:decide (z9n (z0P mx) (z0P ma)>0)=true)(s10_0:RN.raw 1000000 mx=true)(s15_0:RN.raw 1000000 ma=true)(s16_0:RN.raw 100000 (z0P mx)=true)(s16_1:RN.raw 100000 (z0P ma)=true)(o1:(0:Int)≤k∧k<(↑rs.length:Int))(o2:List.take 10 (List.drop (k.toNat*10) (flat RN.l rs))=(RN.l mx))(o5:(0:Int)≤ka∧ka<(↑rs.length:Int))(o6:List.take 10 (List.drop (ka.toNat*10) (flat RN.l rs))=(RN.l ma)){R:Goal}(hn:j8 R.n []=true)(hR:Ok P 85 (loopHead P 85 0) ⟨J1 44 [(6,.cv (.lst rs.length (flat RN.l rs))),(8,.cv (.lit (.int .i64 k))),(9,.cv (.lit (.int .i64 (i64.wrap (k+1)))))],[]⟩ R):Ok P 85 (loopHead P 85 0) ⟨J1 44 [(6,.cv (nmV rs)),(8,.cv (j5 ka)),(9,.cv (j5 k))],[]⟩ R:=
 z0n (keep:=[6,8,9]) (σ:=[]) (.b 5 h1 (.c o1 (.c o2 (.c (eqn 10) (.c (zaa (mx) s10_0) (.c o5 (.c o6 (.c (eqn 10) (.c (zaa (ma) s15_0) (.c (zhz (z0P mx) (z0P ma) s16_0 s16_1) (.o 9 (.r mx.c) (.o 10 (.r (RN.c (z0P mx))) (.o 14 (.r ma.c) (.o 15 (.r (RN.c (z0P ma))) (.o 16 (.r (.lit (.int .i64 (z9n (z0P mx) (z0P ma))))) (.b 18 h2 (.o 24 .stop .nil))))))))))))))))) (by kernel_rfl) rfl hn hR .nil
theorem zlv(rs:List RN)(k ka:Int)(mx ma:RN)(h1:decide (k<(↑rs.length:Int))=true)(h2:decide (z9n (z0P mx) (z0P ma)>0)=false)(s10_0:RN.raw 1000000 mx=true)(s15_0:RN.raw 1000000 ma=true)(s16_0:RN.raw 100000 (z0P mx)=true)(s16_1:RN.raw 100000 (z0P ma)=true)(o1:(0:Int)≤k∧k<(↑rs.length:Int))(o2:List.take 10 (List.drop (k.toNat*10) (flat RN.l rs))=(RN.l mx))(o5:(0:Int)≤ka∧ka<(↑rs.length:Int))(o6:List.take 10 (List.drop (ka.toNat*10) (flat RN.l rs))=(RN.l ma)){R:Goal}(hn:j8 R.n []=true)(hR:Ok P 85 (loopHead P 85 0) ⟨J1 44 [(6,.cv (.lst rs.length (flat RN.l rs))),(8,.cv (.lit (.int .i64 ka))),(9,.cv (.lit (.int .i64 (i64.wrap (k+1)))))],[]⟩ R):Ok P 85 (loopHead P 85 0) ⟨J1 44 [(6,.cv (nmV rs)),(8,.cv (j5 ka)),(9,.cv (j5 k))],[]⟩ R:=
 z0n (keep:=[6,8,9]) (σ:=[]) (.b 5 h1 (.c o1 (.c o2 (.c (eqn 10) (.c (zaa (mx) s10_0) (.c o5 (.c o6 (.c (eqn 10) (.c (zaa (ma) s15_0) (.c (zhz (z0P mx) (z0P ma) s16_0 s16_1) (.o 9 (.r mx.c) (.o 10 (.r (RN.c (z0P mx))) (.o 14 (.r ma.c) (.o 15 (.r (RN.c (z0P ma))) (.o 16 (.r (.lit (.int .i64 (z9n (z0P mx) (z0P ma))))) (.b 18 h2 (.o 22 .stop .nil))))))))))))))))) (by kernel_rfl) rfl hn hR .nil
theorem zkD(rs:List RN)(k ka:Int)(_mx _ma:RN)(h1:decide (k<(↑rs.length:Int))=false){R:Goal}(hR:R.c (.tup [.lit (.int .i64 ka),.lit (.int .i64 0)])):Ok P 85 (loopHead P 85 0) ⟨J1 44 [(6,.cv (nmV rs)),(8,.cv (j5 ka)),(9,.cv (j5 k))],[]⟩ R:=
 okT (.b 5 h1 .nil) (by kernel_rfl) hR
end Go.Fw
