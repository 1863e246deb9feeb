/- A part of the proof that the law returns true for every input: an executor for the model's code, and what functions of the program compute. -/
import Derived.Test.YtcafjpldfnegiaaGreatDoorB11
import Derived.Test.YtcafjpldfnegiaaGreatDoorB15
import Derived.Test.YtcafjpldfnegiaaGreatDoorB27
import Derived.Test.YtcafjpldfnegiaaGreatDoorB34
import Derived.KernelRfl
open Go IntKind
namespace Go.Fw
set_option maxRecDepth 100000
theorem zkx(a b:Int)(g0:((bytesOf b.natAbs).toList==[])=false)(g3:decide ((↑(dig B24 (a.natAbs%b.natAbs)).length:Int)>0)=false)(h1:(!decide (a<0)==decide (b<0))=true)(s19_0:256^7≤a.natAbs)(s35_0:Sml a.natAbs)(s38_0:Sml b.natAbs)(s39_0:b.natAbs≠0)(s39_1:(dig 16777216 a.natAbs).length<2^36)(s39_2:(dig 16777216 b.natAbs).length<2^36)(s62_0:(dig 16777216 (a.natAbs/b.natAbs)).length<2^40)(s66_0:(dig 16777216 (a.natAbs%b.natAbs)).length<2^40)(o7:List.take ((dig 16777216 a.natAbs).length*1) (List.drop 0 (own (j3 (dig 16777216 a.natAbs))))=List.map MV.cv (j3 (dig 16777216 a.natAbs)))(o8:List.take ((dig 16777216 b.natAbs).length*1) (List.drop 0 (own (j3 (dig 16777216 b.natAbs))))=List.map MV.cv (j3 (dig 16777216 b.natAbs))):PCall P 233 [J6 a,J6 b] (.tup [.agg [.lit (.bool (decide ((if(!decide (a<0)==decide (b<0))=true then-(↑(a.natAbs/b.natAbs):Int)else(↑(a.natAbs/b.natAbs):Int))<0))),.lit (.string (bytesOf (if(!decide (a<0)==decide (b<0))=true then-(↑(a.natAbs/b.natAbs):Int)else(↑(a.natAbs/b.natAbs):Int)).natAbs))],.agg [.lit (.bool (decide ((if decide (b<0)=true then-(↑(a.natAbs%b.natAbs):Int)else(↑(a.natAbs%b.natAbs):Int))<0))),.lit (.string (bytesOf (if decide (b<0)=true then-(↑(a.natAbs%b.natAbs):Int)else(↑(a.natAbs%b.natAbs):Int)).natAbs))],.lit (.int .i64 0)]):=
 j5 (.r 6 (J5 (a)) (.r 10 (J5 (b)) (.b 17 g0 (.r 19 (z4o (a) s19_0) (.f 35 (Q0 (a.natAbs) s35_0) (.f 38 (Q0 (b.natAbs) s38_0) (.rs 39 [j3 (dig 16777216 a.natAbs),j3 (dig 16777216 b.natAbs)] (z3o (a.natAbs) (b.natAbs) s39_0 s39_1 s39_2) (.c o7 (.c o8 (.b 50 h1 (.b 55 g3 (.r 62 (z3z (!decide (a<0)==decide (b<0)) (a.natAbs/b.natAbs) s62_0) (.r 66 (z3z (decide (b<0)) (a.natAbs%b.natAbs) s66_0) (.c (lq 2 2) (.c (lq 2 2) .nil))))))))))))))) (by kernel_rfl)
theorem zj9(a b:Int)(g0:((bytesOf b.natAbs).toList==[])=false)(_g3:decide ((↑(dig B24 (a.natAbs%b.natAbs)).length:Int)>0)=false)(h1:(!decide (a<0)==decide (b<0))=false)(s19_0:256^7≤a.natAbs)(s35_0:Sml a.natAbs)(s38_0:Sml b.natAbs)(s39_0:b.natAbs≠0)(s39_1:(dig 16777216 a.natAbs).length<2^36)(s39_2:(dig 16777216 b.natAbs).length<2^36)(s62_0:(dig 16777216 (a.natAbs/b.natAbs)).length<2^40)(s66_0:(dig 16777216 (a.natAbs%b.natAbs)).length<2^40)(o7:List.take ((dig 16777216 a.natAbs).length*1) (List.drop 0 (own (j3 (dig 16777216 a.natAbs))))=List.map MV.cv (j3 (dig 16777216 a.natAbs)))(o8:List.take ((dig 16777216 b.natAbs).length*1) (List.drop 0 (own (j3 (dig 16777216 b.natAbs))))=List.map MV.cv (j3 (dig 16777216 b.natAbs))):PCall P 233 [J6 a,J6 b] (.tup [.agg [.lit (.bool (decide ((if(!decide (a<0)==decide (b<0))=true then-(↑(a.natAbs/b.natAbs):Int)else(↑(a.natAbs/b.natAbs):Int))<0))),.lit (.string (bytesOf (if(!decide (a<0)==decide (b<0))=true then-(↑(a.natAbs/b.natAbs):Int)else(↑(a.natAbs/b.natAbs):Int)).natAbs))],.agg [.lit (.bool (decide ((if decide (b<0)=true then-(↑(a.natAbs%b.natAbs):Int)else(↑(a.natAbs%b.natAbs):Int))<0))),.lit (.string (bytesOf (if decide (b<0)=true then-(↑(a.natAbs%b.natAbs):Int)else(↑(a.natAbs%b.natAbs):Int)).natAbs))],.lit (.int .i64 0)]):=
 j5 (.r 6 (J5 (a)) (.r 10 (J5 (b)) (.b 17 g0 (.r 19 (z4o (a) s19_0) (.f 35 (Q0 (a.natAbs) s35_0) (.f 38 (Q0 (b.natAbs) s38_0) (.rs 39 [j3 (dig 16777216 a.natAbs),j3 (dig 16777216 b.natAbs)] (z3o (a.natAbs) (b.natAbs) s39_0 s39_1 s39_2) (.c o7 (.c o8 (.b 50 h1 (.r 62 (z3z (!decide (a<0)==decide (b<0)) (a.natAbs/b.natAbs) s62_0) (.r 66 (z3z (decide (b<0)) (a.natAbs%b.natAbs) s66_0) (.c (lq 2 2) (.c (lq 2 2) .nil)))))))))))))) (by kernel_rfl)
theorem zhd(a b:Int)(g0:((bytesOf b.natAbs).toList==[])=false)(g2:decide ((↑(bytesOf b.natAbs).size:Int)≤7)=false)(g3:decide ((↑(dig B24 (a.natAbs%b.natAbs)).length:Int)>0)=false)(h1:(!decide (a<0)==decide (b<0))=true)(s19_0:a.natAbs<256^7)(s35_0:Sml a.natAbs)(s38_0:Sml b.natAbs)(s39_0:b.natAbs≠0)(s39_1:(dig 16777216 a.natAbs).length<2^36)(s39_2:(dig 16777216 b.natAbs).length<2^36)(s62_0:(dig 16777216 (a.natAbs/b.natAbs)).length<2^40)(s66_0:(dig 16777216 (a.natAbs%b.natAbs)).length<2^40)(o8:List.take ((dig 16777216 a.natAbs).length*1) (List.drop 0 (own (j3 (dig 16777216 a.natAbs))))=List.map MV.cv (j3 (dig 16777216 a.natAbs)))(o9:List.take ((dig 16777216 b.natAbs).length*1) (List.drop 0 (own (j3 (dig 16777216 b.natAbs))))=List.map MV.cv (j3 (dig 16777216 b.natAbs))):PCall P 233 [J6 a,J6 b] (.tup [.agg [.lit (.bool (decide ((if(!decide (a<0)==decide (b<0))=true then-(↑(a.natAbs/b.natAbs):Int)else(↑(a.natAbs/b.natAbs):Int))<0))),.lit (.string (bytesOf (if(!decide (a<0)==decide (b<0))=true then-(↑(a.natAbs/b.natAbs):Int)else(↑(a.natAbs/b.natAbs):Int)).natAbs))],.agg [.lit (.bool (decide ((if decide (b<0)=true then-(↑(a.natAbs%b.natAbs):Int)else(↑(a.natAbs%b.natAbs):Int))<0))),.lit (.string (bytesOf (if decide (b<0)=true then-(↑(a.natAbs%b.natAbs):Int)else(↑(a.natAbs%b.natAbs):Int)).natAbs))],.lit (.int .i64 0)]):=
 j5 (.r 6 (J5 (a)) (.r 10 (J5 (b)) (.b 17 g0 (.r 19 (z0b (a) s19_0) (.b 32 g2 (.f 35 (Q0 (a.natAbs) s35_0) (.f 38 (Q0 (b.natAbs) s38_0) (.rs 39 [j3 (dig 16777216 a.natAbs),j3 (dig 16777216 b.natAbs)] (z3o (a.natAbs) (b.natAbs) s39_0 s39_1 s39_2) (.c o8 (.c o9 (.b 50 h1 (.b 55 g3 (.r 62 (z3z (!decide (a<0)==decide (b<0)) (a.natAbs/b.natAbs) s62_0) (.r 66 (z3z (decide (b<0)) (a.natAbs%b.natAbs) s66_0) (.c (lq 2 2) (.c (lq 2 2) .nil)))))))))))))))) (by kernel_rfl)
theorem zji(a b:Int)(g0:((bytesOf b.natAbs).toList==[])=false)(g2:decide ((↑(bytesOf b.natAbs).size:Int)≤7)=false)(_g3:decide ((↑(dig B24 (a.natAbs%b.natAbs)).length:Int)>0)=false)(h1:(!decide (a<0)==decide (b<0))=false)(s19_0:a.natAbs<256^7)(s35_0:Sml a.natAbs)(s38_0:Sml b.natAbs)(s39_0:b.natAbs≠0)(s39_1:(dig 16777216 a.natAbs).length<2^36)(s39_2:(dig 16777216 b.natAbs).length<2^36)(s62_0:(dig 16777216 (a.natAbs/b.natAbs)).length<2^40)(s66_0:(dig 16777216 (a.natAbs%b.natAbs)).length<2^40)(o8:List.take ((dig 16777216 a.natAbs).length*1) (List.drop 0 (own (j3 (dig 16777216 a.natAbs))))=List.map MV.cv (j3 (dig 16777216 a.natAbs)))(o9:List.take ((dig 16777216 b.natAbs).length*1) (List.drop 0 (own (j3 (dig 16777216 b.natAbs))))=List.map MV.cv (j3 (dig 16777216 b.natAbs))):PCall P 233 [J6 a,J6 b] (.tup [.agg [.lit (.bool (decide ((if(!decide (a<0)==decide (b<0))=true then-(↑(a.natAbs/b.natAbs):Int)else(↑(a.natAbs/b.natAbs):Int))<0))),.lit (.string (bytesOf (if(!decide (a<0)==decide (b<0))=true then-(↑(a.natAbs/b.natAbs):Int)else(↑(a.natAbs/b.natAbs):Int)).natAbs))],.agg [.lit (.bool (decide ((if decide (b<0)=true then-(↑(a.natAbs%b.natAbs):Int)else(↑(a.natAbs%b.natAbs):Int))<0))),.lit (.string (bytesOf (if decide (b<0)=true then-(↑(a.natAbs%b.natAbs):Int)else(↑(a.natAbs%b.natAbs):Int)).natAbs))],.lit (.int .i64 0)]):=
 j5 (.r 6 (J5 (a)) (.r 10 (J5 (b)) (.b 17 g0 (.r 19 (z0b (a) s19_0) (.b 32 g2 (.f 35 (Q0 (a.natAbs) s35_0) (.f 38 (Q0 (b.natAbs) s38_0) (.rs 39 [j3 (dig 16777216 a.natAbs),j3 (dig 16777216 b.natAbs)] (z3o (a.natAbs) (b.natAbs) s39_0 s39_1 s39_2) (.c o8 (.c o9 (.b 50 h1 (.r 62 (z3z (!decide (a<0)==decide (b<0)) (a.natAbs/b.natAbs) s62_0) (.r 66 (z3z (decide (b<0)) (a.natAbs%b.natAbs) s66_0) (.c (lq 2 2) (.c (lq 2 2) .nil))))))))))))))) (by kernel_rfl)
end Go.Fw
open Go
namespace Go.Fw
set_option maxRecDepth 100000
theorem zdp{n:Nat}(h:Sml n):(dig 16777216 n).length<2^40:=by have:(dig 16777216 n).length<2^31:=h.dig24;omega
theorem zgN{n:Nat}(h:Sml n):(dig 16777216 n).length<2^36:=by have:(dig 16777216 n).length<2^31:=h.dig24;omega
theorem z9o{a b:Nat}:z1j a b≥0↔b≤a:=by
 have:=z75 (a:=a) (b:=b)
 omega
theorem z9y{a b:Int}(h:(decide (a<0)==decide (b<0))=true):(if decide (a<0)=true then-((a.natAbs+b.natAbs:Nat):Int)else((a.natAbs+b.natAbs:Nat):Int))=a+b:=by
 simp only[decide_eq_true_eq]
 rw[beq_iff_eq,decide_eq_decide]at h
 split<;>omega
theorem za5{a b:Int}(h:(decide (a<0)==decide (b<0))=false)(hle:b.natAbs≤a.natAbs):(if decide (a<0)=true then-((a.natAbs-b.natAbs:Nat):Int)else((a.natAbs-b.natAbs:Nat):Int))=a+b:=by
 simp only[decide_eq_true_eq]
 rw[beq_eq_false_iff_ne,Ne,decide_eq_decide]at h
 split<;>omega
theorem z8w{a b:Int}(h:(decide (a<0)==decide (b<0))=false)(hle:a.natAbs≤b.natAbs):(if decide (b<0)=true then-((b.natAbs-a.natAbs:Nat):Int)else((b.natAbs-a.natAbs:Nat):Int))=a+b:=by
 rw[za5 (a:=b) (b:=a) (by rw[beq_eq_false_iff_ne]at h ⊢;exact fun e=>h e.symm) hle,Int.add_comm]
theorem z0m(a b:Int)(ha:Sml a.natAbs)(hb:Sml b.natAbs)(hs:Sml (a.natAbs+b.natAbs)):PCall P 127 [J6 a,J6 b] (J6 (a+b)):=by
 have la:=zdp ha
 have lb:=zdp hb
 have ls:=zdp hs
 have ld:=zdp (hs.mono (show a.natAbs-b.natAbs≤a.natAbs+b.natAbs by omega))
 have ld':=zdp (hs.mono (show b.natAbs-a.natAbs≤a.natAbs+b.natAbs by omega))
 have oa:=V8 (dig 16777216 a.natAbs)
 have ob:=V8 (dig 16777216 b.natAbs)
 by_cases h1:a.natAbs<72057594037927936
 · by_cases h2:b.natAbs<72057594037927936
   · have:=zoD a b (decide_eq_true h1) (decide_eq_true h2) (by rw[if_pos h1,if_pos h2,w64 (by omega)];omega)
     rw[if_pos h1,if_pos h2,w64 (by omega)]at this
     exact this
   · cases h3:(decide (a<0)==decide (b<0))
     · by_cases h4:b.natAbs≤a.natAbs
       · omega
       · have:=znC a b (decide_eq_true h1) (decide_eq_false h2) h3 (decide_eq_false (fun h=>h4 (z9o.1 h))) ha hb la lb lb (by omega) ld' oa ob ob oa
         rw[z8w h3 (by omega)]at this
         exact this
     · have:=zn7 a b (decide_eq_true h1) (decide_eq_false h2) h3 ha hb la lb ls oa ob
       rw[z9y h3]at this
       exact this
 · cases h3:(decide (a<0)==decide (b<0))
   · by_cases h4:b.natAbs≤a.natAbs
     · have:=zne a b (decide_eq_false h1) h3 (decide_eq_true (z9o.2 h4)) ha hb la lb la h4 ld oa ob oa ob
       rw[za5 h3 h4]at this
       exact this
     · have:=zlP a b (decide_eq_false h1) h3 (decide_eq_false (fun h=>h4 (z9o.1 h))) ha hb la lb lb (by omega) ld' oa ob ob oa
       rw[z8w h3 (by omega)]at this
       exact this
   · have:=zlz a b (decide_eq_false h1) h3 ha hb la lb ls oa ob
     rw[z9y h3]at this
     exact this
theorem sgn_mul{a b:Int}:(if(!(decide (a<0)==decide (b<0)))=true then-((a.natAbs*b.natAbs:Nat):Int)else((a.natAbs*b.natAbs:Nat):Int))=a*b:=by
 have e:(a*b).natAbs=a.natAbs*b.natAbs:=Int.natAbs_mul a b
 rw[←e]
 rcases Int.lt_or_le a 0 with ha|ha<;>rcases Int.lt_or_le b 0 with hb|hb
 · have hp:0<a*b:=Int.mul_pos_of_neg_of_neg ha hb
   generalize a*b=p at*
   rw[decide_eq_true ha,decide_eq_true hb,if_neg (by decide)];omega
 · have hp:a*b≤0:=Int.mul_nonpos_of_nonpos_of_nonneg (by omega) hb
   generalize a*b=p at*
   rw[decide_eq_true ha,decide_eq_false (by omega),if_pos (by decide)];omega
 · have hp:a*b≤0:=Int.mul_nonpos_of_nonneg_of_nonpos ha (by omega)
   generalize a*b=p at*
   rw[decide_eq_false (by omega),decide_eq_true hb,if_pos (by decide)];omega
 · have hp:0≤a*b:=Int.mul_nonneg ha hb
   generalize a*b=p at*
   rw[decide_eq_false (by omega),decide_eq_false (by omega),if_neg (by decide)];omega
theorem Y3(a b:Int)(ha:Sml a.natAbs)(hb:Sml b.natAbs)(hs:Sml (a.natAbs*b.natAbs)):PCall P 128 [J6 a,J6 b] (J6 (a*b)):=by
 have sa:=ha.size
 have sb:=hb.size
 have hw:IntKind.i64.wrap (((bytesOf a.natAbs).size:Int)+((bytesOf b.natAbs).size:Int))=(((bytesOf a.natAbs).size+(bytesOf b.natAbs).size:Nat):Int):=by rw[w64 (by omega)];omega
 by_cases h1:(bytesOf a.natAbs).size+(bytesOf b.natAbs).size≤7
 · have k1:a.natAbs<256^(bytesOf a.natAbs).size:=X7.1 (Nat.le_refl _)
   have k2:b.natAbs<256^(bytesOf b.natAbs).size:=X7.1 (Nat.le_refl _)
   have k3:a.natAbs*b.natAbs<256^7:=by
    refine Nat.lt_of_lt_of_le (Nat.mul_lt_mul'' k1 k2) ?_
    rw[←Nat.pow_add]
    exact Nat.pow_le_pow_right (by decide) h1
   have l1:a.natAbs<256^7:=Nat.lt_of_lt_of_le k1 (Nat.pow_le_pow_right (by decide) (by omega))
   have l2:b.natAbs<256^7:=Nat.lt_of_lt_of_le k2 (Nat.pow_le_pow_right (by decide) (by omega))
   have e:(a*b).natAbs=a.natAbs*b.natAbs:=Int.natAbs_mul a b
   rw[←e]at k3
   have hw2:IntKind.i64.wrap (a*b)=a*b:=by
    generalize a*b=p at*
    exact w64 (by omega)
   have:=znF a b (by rw[hw];exact decide_eq_true (by omega)) l1 l2 (by
    rw[hw2]
    generalize a*b=p at*
    omega)
   rw[hw2]at this
   exact this
 · have:=zn8 a b (by rw[hw];exact decide_eq_false (by omega)) ha hb (zdp ha) (zdp hb) (zdp hs) (V8 _) (V8 _)
   rw[sgn_mul]at this
   exact this
theorem zdX{a b:Int}(hb:b≠0)(hd:b∣a):(if(!(decide (a<0)==decide (b<0)))=true then-((a.natAbs/b.natAbs:Nat):Int)else((a.natAbs/b.natAbs:Nat):Int))=a/b:=by
 obtain⟨k,rfl⟩:=hd
 have hb0:0<b.natAbs:=by omega
 rw[Int.mul_ediv_cancel_left _ hb,Int.natAbs_mul,Nat.mul_div_cancel_left _ hb0]
 rcases Int.lt_trichotomy k 0 with hk|hk|hk
 · rcases Int.lt_or_le b 0 with h|h
   · have hp:0<b*k:=Int.mul_pos_of_neg_of_neg h hk
     rw[decide_eq_false (by omega),decide_eq_true h,if_pos (by decide)];omega
   · have hp:b*k<0:=Int.mul_neg_of_pos_of_neg (by omega) hk
     rw[decide_eq_true hp,decide_eq_false (by omega),if_pos (by decide)];omega
 · subst hk;simp
 · rcases Int.lt_or_le b 0 with h|h
   · have hp:b*k<0:=Int.mul_neg_of_neg_of_pos h hk
     rw[decide_eq_true hp,decide_eq_true h,if_neg (by decide)];omega
   · have hp:0<b*k:=Int.mul_pos (by omega) hk
     rw[decide_eq_false (by omega),decide_eq_false (by omega),if_neg (by decide)];omega
theorem za8(a b:Int)(ha:Sml a.natAbs)(hb:Sml b.natAbs)(hb0:b≠0)(hd:b∣a):PCall P 233 [J6 a,J6 b] (.tup [J6 (a/b),J6 0,j6 0]):=by
 have nb:b.natAbs≠0:=by omega
 have hm:a.natAbs%b.natAbs=0:=Nat.mod_eq_zero_of_dvd (Int.natAbs_dvd_natAbs.2 hd)
 have g0:((bytesOf b.natAbs).toList==[])=false:=by rw[Z5];simpa using hb0
 have g3:decide ((((dig B24 (a.natAbs%b.natAbs)).length:Nat):Int)>0)=false:=by rw[hm];rfl
 have lq:=zdp (ha.mono (Nat.div_le_self a.natAbs b.natAbs))
 have lr:(dig 16777216 (a.natAbs%b.natAbs)).length<2^40:=by rw[hm];decide
 have hr:(if decide (b<0)=true then-((a.natAbs%b.natAbs:Nat):Int)else((a.natAbs%b.natAbs:Nat):Int))=0:=by rw[hm];split<;>rfl
 by_cases h1:a.natAbs<256^7
 · by_cases h2:b.natAbs<256^7
   · exact zpv a b h1 h2 hb0 hd
   · have g2:decide (((bytesOf b.natAbs).size:Int)≤7)=false:=decide_eq_false (fun h=>h2 (X7.1 (by omega)))
     have key: ∀s,(!(decide (a<0)==decide (b<0)))=s→PCall P 233 [J6 a,J6 b] (.tup [J6 (if(!(decide (a<0)==decide (b<0)))=true then-((a.natAbs/b.natAbs:Nat):Int)else((a.natAbs/b.natAbs:Nat):Int)),J6 (if decide (b<0)=true then-((a.natAbs%b.natAbs:Nat):Int)else((a.natAbs%b.natAbs:Nat):Int)),j6 0]):=by
      intro s hs
      cases s
      · exact zji a b g0 g2 g3 hs h1 ha hb nb (zgN ha) (zgN hb) lq lr (V8 _) (V8 _)
      · exact zhd a b g0 g2 g3 hs h1 ha hb nb (zgN ha) (zgN hb) lq lr (V8 _) (V8 _)
     have:=key _ rfl
     rw[zdX hb0 hd,hr]at this
     exact this
 · have key : ∀ s, (!(decide (a < 0) == decide (b < 0))) = s → PCall P 233 [J6 a, J6 b] (.tup [J6 (if (!(decide (a < 0) == decide (b < 0))) = true then -((a.natAbs / b.natAbs : Nat) : Int) else ((a.natAbs / b.natAbs : Nat) : Int)), J6 (if decide (b < 0) = true then -((a.natAbs % b.natAbs : Nat) : Int) else ((a.natAbs % b.natAbs : Nat) : Int)), j6 0]) := by
     intro s hs
     cases s
     · exact zj9 a b g0 g3 hs (Nat.le_of_not_lt h1) ha hb nb (zgN ha) (zgN hb) lq lr (V8 _) (V8 _)
     · exact zkx a b g0 g3 hs (Nat.le_of_not_lt h1) ha hb nb (zgN ha) (zgN hb) lq lr (V8 _) (V8 _)
   have:=key _ rfl
   rw[zdX hb0 hd,hr]at this
   exact this
theorem z1Q(a b:Int)(ha:Sml a.natAbs)(hb:Sml b.natAbs)(hb0:b≠0)(hd:b∣a):z2u a b:=
 zlM a b (by rw[Z5];simpa using hb0) (za8 a b ha hb hb0 hd) (za8 a b ha hb hb0 hd)
theorem z8z(a b:Int)(ha:Sml a.natAbs)(hb:Sml b.natAbs):PCall P 213 [J6 a,J6 b] (j6 (if a<b then-1 else if a=b then 0 else 1)):=by
 have la:=zdp ha
 have lb:=zdp hb
 have oa:=V8 (dig 16777216 a.natAbs)
 have ob:=V8 (dig 16777216 b.natAbs)
 have sa:a.sign= -1∧a<0∨a.sign=0∧a=0∨a.sign=1∧0<a:=by
  rcases Int.lt_trichotomy a 0 with h|h|h
  · exact .inl ⟨Int.sign_eq_neg_one_of_neg h,h⟩
  · exact .inr (.inl ⟨by rw[h];rfl,h⟩)
  · exact .inr (.inr ⟨Int.sign_eq_one_of_pos h,h⟩)
 have sb:b.sign= -1∧b<0∨b.sign=0∧b=0∨b.sign=1∧0<b:=by
  rcases Int.lt_trichotomy b 0 with h|h|h
  · exact .inl ⟨Int.sign_eq_neg_one_of_neg h,h⟩
  · exact .inr (.inl ⟨by rw[h];rfl,h⟩)
  · exact .inr (.inr ⟨Int.sign_eq_one_of_pos h,h⟩)
 by_cases h1:a.sign=b.sign
 · have:=zmP a b (by simp[h1]) ha hb la lb oa ob
   have hv:IntKind.i64.wrap (a.sign*z1j a.natAbs b.natAbs)=(if a<b then-1 else if a=b then 0 else 1):=by
    have hc:z1j a.natAbs b.natAbs= -1∧a.natAbs<b.natAbs∨z1j a.natAbs b.natAbs=0∧a.natAbs=b.natAbs∨z1j a.natAbs b.natAbs=1∧b.natAbs<a.natAbs:=by
     unfold z1j
     split
     · omega
     · split<;>omega
    rw[w64 (by rcases sa with⟨e,_⟩|⟨e,_⟩|⟨e,_⟩<;>rw[e]<;>omega)]
    rcases sa with⟨e,_⟩|⟨e,_⟩|⟨e,_⟩<;>rw[e]<;>(split<;>(try split)<;>omega)
   rw[hv]at this
   exact this
 · by_cases h2:a.sign<b.sign
   · have:=zlZ a b (by simp[h1]) (decide_eq_true h2)
     rw[if_pos (by omega)];exact this
   · have:=zmn a b (by simp[h1]) (decide_eq_false h2)
     rw[if_neg (by omega),if_neg (by rintro rfl;exact h1 rfl)];exact this
end Go.Fw
open Go
namespace Go.Fw
set_option maxRecDepth 100000
theorem z5N{b:Bool}{s:ByteArray}(h:J2 b s=true):s=bytesOf (J7 s):=by
 have hs:=z4b s
 rw[←zcU]
 unfold J2 at h
 by_cases h0:s.size=0
 · have:z2h s=[]:=List.length_eq_zero_iff.1 (by rw[V5];exact h0)
   rw[this]at hs ⊢
   exact hs.symm
 · rw[if_neg h0,decide_eq_true_eq]at h
   have hne:z2h s≠[]:=by
    intro e
    have:=V5 s
    rw[e]at this
    exact h0 this.symm
   have hc:=U0 hne
   generalize (z2h s).take ((z2h s).length-1)=l at hc
   generalize hx:(z2h s).getD ((z2h s).length-1) 0=x at hc
   have hf:=z3f l x
   rw[←hc,hs]at hf
   rw[hf]at h
   have hx0:x≠0:=by rintro rfl;exact h rfl
   have:tz (z2h s)=z2h s:=by rw[hc];exact z0P hx0 l
   rw[this,hs]
theorem X5{b:Bool}{s:ByteArray}(h:J2 b s=true):s=bytesOf (J7 s)∧b=decide (zOf b s<0)∧(zOf b s).natAbs=J7 s:=by
 refine⟨z5N h,?_,?_⟩
 · cases b
   · simp only[zOf,Bool.false_eq_true,if_false]
     exact(decide_eq_false (by omega)).symm
   · have hz : J7 s ≠ 0 := by
       intro e
       have h1:=z5N h
       rw[e]at h1
       rw[h1]at h
       revert h
       decide
     simp only[zOf,if_true]
     exact(decide_eq_true (by omega)).symm
 · cases b<;>simp only[zOf,Bool.false_eq_true,if_false,if_true]<;>omega
theorem z2x{b:Bool}{s:ByteArray}(h:J2 b s=true):CV.agg [.lit (.bool b),X3 s]=J6 (zOf b s):=by
 obtain⟨h1,h2,h3⟩:=X5 h
 unfold J6
 rw[←h2,h3,←h1]
theorem z08(z:Int)(b:Bool)(s:ByteArray)(hv:J2 b s=true)(hz:Sml z.natAbs)(hs:Sml (J7 s)):PCall P 184 [J6 z,.agg [.lit (.bool b),X3 s]] (J6 (Nat.gcd z.natAbs (zOf b s).natAbs:Nat)):=by
 rw[z2x hv]
 exact z2k z _ hz (by rw[(X5 hv).2.2];exact hs)
theorem z1H(b:Bool)(s:ByteArray)(hv:J2 b s=true)(hs:Sml (J7 s)):PCall P 184 [.agg [.lit (.bool false),X3 ⟨#[]⟩],.agg [.lit (.bool b),X3 s]] (J6 (Nat.gcd 0 (zOf b s).natAbs:Nat)):=
 z08 0 b s hv (by unfold Sml;decide) hs
theorem z8m(b:Bool)(s:ByteArray)(hv:J2 b s=true):PCall P 183 [.agg [.lit (.bool b),X3 s]] (j6 (zOf b s).sign):=by
 rw[z2x hv]
 exact Z3 _
def fB(b0 b1 b2 b3 b4:Bool):Nat→Bool
 |0=>b0
 |1=>b1
 |2=>b2
 |3=>b3
 |_=>b4
def fS(s0 s1 s2 s3 s4:ByteArray):Nat→ByteArray
 |0=>s0
 |1=>s1
 |2=>s2
 |3=>s3
 |_=>s4
abbrev r5(b0 b1 b2 b3 b4:Bool)(s0 s1 s2 s3 s4:ByteArray):CV:= .agg [.lit (.bool b0),X3 s0,.lit (.bool b1),X3 s1,.lit (.bool b2),X3 s2,.lit (.bool b3),X3 s3,.lit (.bool b4),X3 s4]
open Classical in
noncomputable def wdX(b0 b1 b2 b3 b4:Bool)(s0 s1 s2 s3 s4:ByteArray):Nat→Int:=
 if h: ∃W,PCall P 125 [r5 b0 b1 b2 b3 b4 s0 s1 s2 s3 s4] (wdV W false)then h.choose else fun _=>0
theorem z3k (b0 b1 b2 b3 b4 : Bool) (s0 s1 s2 s3 s4 : ByteArray) (h : ¬ ∀ i, i < 5 → z69 (fB b0 b1 b2 b3 b4) (fS s0 s1 s2 s3 s4) i) :
    PCall P 125 [r5 b0 b1 b2 b3 b4 s0 s1 s2 s3 s4] (wdV (wdX b0 b1 b2 b3 b4 s0 s1 s2 s3 s4) false):=by
 have h2: ∃W,PCall P 125 [r5 b0 b1 b2 b3 b4 s0 s1 s2 s3 s4] (wdV W false):=z8c h
 unfold wdX
 rw[dif_pos h2]
 exact h2.choose_spec
theorem zdq (b0 b1 b2 b3 b4 : Bool) (s0 s1 s2 s3 s4 : ByteArray) (h : ∀ i, i < 5 → z69 (fB b0 b1 b2 b3 b4) (fS s0 s1 s2 s3 s4) i) :
    PCall P 125 [r5 b0 b1 b2 b3 b4 s0 s1 s2 s3 s4] (wdV (z3Y (fB b0 b1 b2 b3 b4) (fS s0 s1 s2 s3 s4)) true):=za3 h
theorem zpE(a b c d e:Int)(h:M5 a b c d e):PCall P 192 [.agg [j6 a,j6 b,j6 c,j6 d,j6 e]] (j6 (W7 a b c d e:Nat)):=by
 have:=z6R (f5 a b c d e) h.f5
 rw[zbO]at this
 exact this
end Go.Fw
open Go IntKind
namespace Go.Fw
set_option maxRecDepth 100000
theorem zoJ(b0 b1 b2 b3 b4:Bool)(s0 s1 s2 s3 s4:ByteArray)(h1:(J2 b0 s0)=true)(h2:(J2 b1 s1)=true)(h3:(J2 b2 s2)=true)(h4:(J2 b3 s3)=true)(h5:(J2 b4 s4)=true)(h6:decide ((zOf b4 s4).sign>0)=true)(s3_0: ¬∀(i:Nat),i<5→z69 (fB b0 b1 b2 b3 b4) (fS s0 s1 s2 s3 s4) i)(s32_0:Sml (J7 s0))(s53_0:Sml (↑(Nat.gcd 0 (zOf b0 s0).natAbs):Int).natAbs)(s53_1:Sml (J7 s1))(s74_0:Sml (↑((↑(Nat.gcd 0 (zOf b0 s0).natAbs):Int).natAbs.gcd (zOf b1 s1).natAbs):Int).natAbs)(s74_1:Sml (J7 s2))(s95_0:Sml (↑((↑((↑(Nat.gcd 0 (zOf b0 s0).natAbs):Int).natAbs.gcd (zOf b1 s1).natAbs):Int).natAbs.gcd (zOf b2 s2).natAbs):Int).natAbs)(s95_1:Sml (J7 s3))(s117_0:Sml (↑((↑((↑((↑(Nat.gcd 0 (zOf b0 s0).natAbs):Int).natAbs.gcd (zOf b1 s1).natAbs):Int).natAbs.gcd (zOf b2 s2).natAbs):Int).natAbs.gcd (zOf b3 s3).natAbs):Int).natAbs)(s117_1:Sml (J7 s4))(s118_0:(-9223372036854775808:Int)≤1∧(1:Int)≤9223372036854775807):PCall P 124 [r5 b0 b1 b2 b3 b4 s0 s1 s2 s3 s4] (.lit (.bool (decide ((↑((↑((↑((↑((↑(Nat.gcd 0 (zOf b0 s0).natAbs):Int).natAbs.gcd (zOf b1 s1).natAbs):Int).natAbs.gcd (zOf b2 s2).natAbs):Int).natAbs.gcd (zOf b3 s3).natAbs):Int).natAbs.gcd (zOf b4 s4).natAbs):Int)<0)==false&&(bytesOf (↑((↑((↑((↑((↑(Nat.gcd 0 (zOf b0 s0).natAbs):Int).natAbs.gcd (zOf b1 s1).natAbs):Int).natAbs.gcd (zOf b2 s2).natAbs):Int).natAbs.gcd (zOf b3 s3).natAbs):Int).natAbs.gcd (zOf b4 s4).natAbs):Int).natAbs==bytesOf 1&&true)))):=
 j5 (.r 3 (z3k (b0) (b1) (b2) (b3) (b4) (s0) (s1) (s2) (s3) (s4) s3_0) (.c (lq 5 5) (.c (lq 2 2) (.c (bq 0 4) (.r 24 ((J4 (b0) (s0)).eqB h1) (.c (bq 0 4) (.r 32 (z1H (b0) (s0) h1 s32_0) (.c (lq 2 2) (.c (bq 1 4) (.r 45 ((J4 (b1) (s1)).eqB h2) (.c (bq 1 4) (.r 53 (z08 ((↑(Nat.gcd 0 (zOf b0 s0).natAbs):Int)) (b1) (s1) h2 s53_0 s53_1) (.c (lq 2 2) (.c (bq 2 4) (.r 66 ((J4 (b2) (s2)).eqB h3) (.c (bq 2 4) (.r 74 (z08 ((↑((↑(Nat.gcd 0 (zOf b0 s0).natAbs):Int).natAbs.gcd (zOf b1 s1).natAbs):Int)) (b2) (s2) h3 s74_0 s74_1) (.c (lq 2 2) (.c (bq 3 4) (.r 87 ((J4 (b3) (s3)).eqB h4) (.c (bq 3 4) (.r 95 (z08 ((↑((↑((↑(Nat.gcd 0 (zOf b0 s0).natAbs):Int).natAbs.gcd (zOf b1 s1).natAbs):Int).natAbs.gcd (zOf b2 s2).natAbs):Int)) (b3) (s3) h4 s95_0 s95_1) (.c (lq 2 2) (.r 106 ((J4 (b4) (s4)).eqB h5) (.r 110 (z8m (b4) (s4) h5) (.b 113 h6 (.r 117 (z08 ((↑((↑((↑((↑(Nat.gcd 0 (zOf b0 s0).natAbs):Int).natAbs.gcd (zOf b1 s1).natAbs):Int).natAbs.gcd (zOf b2 s2).natAbs):Int).natAbs.gcd (zOf b3 s3).natAbs):Int)) (b4) (s4) h5 s117_0 s117_1) (.r 118 (Y1 ((1:Int)) s118_0) .nil)))))))))))))))))))))))))))) (by kernel_rfl)
theorem zmC(b0 b1 b2 b3 b4:Bool)(s0 s1 s2 s3 s4:ByteArray)(h1:(J2 b0 s0)=true)(h2:(J2 b1 s1)=true)(h3:(J2 b2 s2)=true)(h4:(J2 b3 s3)=true)(h5:(J2 b4 s4)=true)(h6:decide ((zOf b4 s4).sign>0)=false)(s3_0: ¬∀(i:Nat),i<5→z69 (fB b0 b1 b2 b3 b4) (fS s0 s1 s2 s3 s4) i)(s32_0:Sml (J7 s0))(s53_0:Sml (↑(Nat.gcd 0 (zOf b0 s0).natAbs):Int).natAbs)(s53_1:Sml (J7 s1))(s74_0:Sml (↑((↑(Nat.gcd 0 (zOf b0 s0).natAbs):Int).natAbs.gcd (zOf b1 s1).natAbs):Int).natAbs)(s74_1:Sml (J7 s2))(s95_0:Sml (↑((↑((↑(Nat.gcd 0 (zOf b0 s0).natAbs):Int).natAbs.gcd (zOf b1 s1).natAbs):Int).natAbs.gcd (zOf b2 s2).natAbs):Int).natAbs)(s95_1:Sml (J7 s3)):PCall P 124 [r5 b0 b1 b2 b3 b4 s0 s1 s2 s3 s4] (.lit (.bool false)):=
 j5 (.r 3 (z3k (b0) (b1) (b2) (b3) (b4) (s0) (s1) (s2) (s3) (s4) s3_0) (.c (lq 5 5) (.c (lq 2 2) (.c (bq 0 4) (.r 24 ((J4 (b0) (s0)).eqB h1) (.c (bq 0 4) (.r 32 (z1H (b0) (s0) h1 s32_0) (.c (lq 2 2) (.c (bq 1 4) (.r 45 ((J4 (b1) (s1)).eqB h2) (.c (bq 1 4) (.r 53 (z08 ((↑(Nat.gcd 0 (zOf b0 s0).natAbs):Int)) (b1) (s1) h2 s53_0 s53_1) (.c (lq 2 2) (.c (bq 2 4) (.r 66 ((J4 (b2) (s2)).eqB h3) (.c (bq 2 4) (.r 74 (z08 ((↑((↑(Nat.gcd 0 (zOf b0 s0).natAbs):Int).natAbs.gcd (zOf b1 s1).natAbs):Int)) (b2) (s2) h3 s74_0 s74_1) (.c (lq 2 2) (.c (bq 3 4) (.r 87 ((J4 (b3) (s3)).eqB h4) (.c (bq 3 4) (.r 95 (z08 ((↑((↑((↑(Nat.gcd 0 (zOf b0 s0).natAbs):Int).natAbs.gcd (zOf b1 s1).natAbs):Int).natAbs.gcd (zOf b2 s2).natAbs):Int)) (b3) (s3) h4 s95_0 s95_1) (.c (lq 2 2) (.r 106 ((J4 (b4) (s4)).eqB h5) (.r 110 (z8m (b4) (s4) h5) (.b 113 h6 .nil)))))))))))))))))))))))))) (by kernel_rfl)
theorem zlf(b0 b1 b2 b3 b4:Bool)(s0 s1 s2 s3 s4:ByteArray)(h1:(J2 b0 s0)=true)(h2:(J2 b1 s1)=true)(h3:(J2 b2 s2)=true)(h4:(J2 b3 s3)=true)(h5:(J2 b4 s4)=false)(s3_0: ¬∀(i:Nat),i<5→z69 (fB b0 b1 b2 b3 b4) (fS s0 s1 s2 s3 s4) i)(s32_0:Sml (J7 s0))(s53_0:Sml (↑(Nat.gcd 0 (zOf b0 s0).natAbs):Int).natAbs)(s53_1:Sml (J7 s1))(s74_0:Sml (↑((↑(Nat.gcd 0 (zOf b0 s0).natAbs):Int).natAbs.gcd (zOf b1 s1).natAbs):Int).natAbs)(s74_1:Sml (J7 s2))(s95_0:Sml (↑((↑((↑(Nat.gcd 0 (zOf b0 s0).natAbs):Int).natAbs.gcd (zOf b1 s1).natAbs):Int).natAbs.gcd (zOf b2 s2).natAbs):Int).natAbs)(s95_1:Sml (J7 s3)):PCall P 124 [r5 b0 b1 b2 b3 b4 s0 s1 s2 s3 s4] (.lit (.bool false)):=
 j5 (.r 3 (z3k (b0) (b1) (b2) (b3) (b4) (s0) (s1) (s2) (s3) (s4) s3_0) (.c (lq 5 5) (.c (lq 2 2) (.c (bq 0 4) (.r 24 ((J4 (b0) (s0)).eqB h1) (.c (bq 0 4) (.r 32 (z1H (b0) (s0) h1 s32_0) (.c (lq 2 2) (.c (bq 1 4) (.r 45 ((J4 (b1) (s1)).eqB h2) (.c (bq 1 4) (.r 53 (z08 ((↑(Nat.gcd 0 (zOf b0 s0).natAbs):Int)) (b1) (s1) h2 s53_0 s53_1) (.c (lq 2 2) (.c (bq 2 4) (.r 66 ((J4 (b2) (s2)).eqB h3) (.c (bq 2 4) (.r 74 (z08 ((↑((↑(Nat.gcd 0 (zOf b0 s0).natAbs):Int).natAbs.gcd (zOf b1 s1).natAbs):Int)) (b2) (s2) h3 s74_0 s74_1) (.c (lq 2 2) (.c (bq 3 4) (.r 87 ((J4 (b3) (s3)).eqB h4) (.c (bq 3 4) (.r 95 (z08 ((↑((↑((↑(Nat.gcd 0 (zOf b0 s0).natAbs):Int).natAbs.gcd (zOf b1 s1).natAbs):Int).natAbs.gcd (zOf b2 s2).natAbs):Int)) (b3) (s3) h4 s95_0 s95_1) (.c (lq 2 2) (.r 106 ((J4 (b4) (s4)).eqB h5) .nil)))))))))))))))))))))))) (by kernel_rfl)
theorem zmH(b0 b1 b2 b3 b4:Bool)(s0 s1 s2 s3 s4:ByteArray)(h1:(J2 b0 s0)=true)(h2:(J2 b1 s1)=true)(h3:(J2 b2 s2)=true)(h4:(J2 b3 s3)=false)(s3_0: ¬∀(i:Nat),i<5→z69 (fB b0 b1 b2 b3 b4) (fS s0 s1 s2 s3 s4) i)(s32_0:Sml (J7 s0))(s53_0:Sml (↑(Nat.gcd 0 (zOf b0 s0).natAbs):Int).natAbs)(s53_1:Sml (J7 s1))(s74_0:Sml (↑((↑(Nat.gcd 0 (zOf b0 s0).natAbs):Int).natAbs.gcd (zOf b1 s1).natAbs):Int).natAbs)(s74_1:Sml (J7 s2)):PCall P 124 [r5 b0 b1 b2 b3 b4 s0 s1 s2 s3 s4] (.lit (.bool false)):=
 j5 (.r 3 (z3k (b0) (b1) (b2) (b3) (b4) (s0) (s1) (s2) (s3) (s4) s3_0) (.c (lq 5 5) (.c (lq 2 2) (.c (bq 0 4) (.r 24 ((J4 (b0) (s0)).eqB h1) (.c (bq 0 4) (.r 32 (z1H (b0) (s0) h1 s32_0) (.c (lq 2 2) (.c (bq 1 4) (.r 45 ((J4 (b1) (s1)).eqB h2) (.c (bq 1 4) (.r 53 (z08 ((↑(Nat.gcd 0 (zOf b0 s0).natAbs):Int)) (b1) (s1) h2 s53_0 s53_1) (.c (lq 2 2) (.c (bq 2 4) (.r 66 ((J4 (b2) (s2)).eqB h3) (.c (bq 2 4) (.r 74 (z08 ((↑((↑(Nat.gcd 0 (zOf b0 s0).natAbs):Int).natAbs.gcd (zOf b1 s1).natAbs):Int)) (b2) (s2) h3 s74_0 s74_1) (.c (lq 2 2) (.c (bq 3 4) (.r 87 ((J4 (b3) (s3)).eqB h4) .nil)))))))))))))))))))) (by kernel_rfl)
theorem zoB(b0 b1 b2 b3 b4:Bool)(s0 s1 s2 s3 s4:ByteArray)(h1:(J2 b0 s0)=true)(h2:(J2 b1 s1)=true)(h3:(J2 b2 s2)=false)(s3_0: ¬∀(i:Nat),i<5→z69 (fB b0 b1 b2 b3 b4) (fS s0 s1 s2 s3 s4) i)(s32_0:Sml (J7 s0))(s53_0:Sml (↑(Nat.gcd 0 (zOf b0 s0).natAbs):Int).natAbs)(s53_1:Sml (J7 s1)):PCall P 124 [r5 b0 b1 b2 b3 b4 s0 s1 s2 s3 s4] (.lit (.bool false)):=
 j5 (.r 3 (z3k (b0) (b1) (b2) (b3) (b4) (s0) (s1) (s2) (s3) (s4) s3_0) (.c (lq 5 5) (.c (lq 2 2) (.c (bq 0 4) (.r 24 ((J4 (b0) (s0)).eqB h1) (.c (bq 0 4) (.r 32 (z1H (b0) (s0) h1 s32_0) (.c (lq 2 2) (.c (bq 1 4) (.r 45 ((J4 (b1) (s1)).eqB h2) (.c (bq 1 4) (.r 53 (z08 ((↑(Nat.gcd 0 (zOf b0 s0).natAbs):Int)) (b1) (s1) h2 s53_0 s53_1) (.c (lq 2 2) (.c (bq 2 4) (.r 66 ((J4 (b2) (s2)).eqB h3) .nil))))))))))))))) (by kernel_rfl)
theorem zmi(b0 b1 b2 b3 b4:Bool)(s0 s1 s2 s3 s4:ByteArray)(h1:(J2 b0 s0)=true)(h2:(J2 b1 s1)=false)(s3_0: ¬∀(i:Nat),i<5→z69 (fB b0 b1 b2 b3 b4) (fS s0 s1 s2 s3 s4) i)(s32_0:Sml (J7 s0)):PCall P 124 [r5 b0 b1 b2 b3 b4 s0 s1 s2 s3 s4] (.lit (.bool false)):=
 j5 (.r 3 (z3k (b0) (b1) (b2) (b3) (b4) (s0) (s1) (s2) (s3) (s4) s3_0) (.c (lq 5 5) (.c (lq 2 2) (.c (bq 0 4) (.r 24 ((J4 (b0) (s0)).eqB h1) (.c (bq 0 4) (.r 32 (z1H (b0) (s0) h1 s32_0) (.c (lq 2 2) (.c (bq 1 4) (.r 45 ((J4 (b1) (s1)).eqB h2) .nil)))))))))) (by kernel_rfl)
theorem zl9(b0 b1 b2 b3 b4:Bool)(s0 s1 s2 s3 s4:ByteArray)(h1:(J2 b0 s0)=false)(s3_0: ¬∀(i:Nat),i<5→z69 (fB b0 b1 b2 b3 b4) (fS s0 s1 s2 s3 s4) i):PCall P 124 [r5 b0 b1 b2 b3 b4 s0 s1 s2 s3 s4] (.lit (.bool false)):=
 j5 (.r 3 (z3k (b0) (b1) (b2) (b3) (b4) (s0) (s1) (s2) (s3) (s4) s3_0) (.c (lq 5 5) (.c (lq 2 2) (.c (bq 0 4) (.r 24 ((J4 (b0) (s0)).eqB h1) .nil))))) (by kernel_rfl)
end Go.Fw
open Go IntKind
namespace Go.Fw
set_option maxRecDepth 100000
theorem zmv(b0 b1 b2 b3 b4:Bool)(s0 s1 s2 s3 s4:ByteArray)(h1:decide (z3Y (fB b0 b1 b2 b3 b4) (fS s0 s1 s2 s3 s4) 4>0)=true)(s3_0: ∀(i:Nat),i<5→z69 (fB b0 b1 b2 b3 b4) (fS s0 s1 s2 s3 s4) i)(s17_0:M5 (z3Y (fB b0 b1 b2 b3 b4) (fS s0 s1 s2 s3 s4) 0) (z3Y (fB b0 b1 b2 b3 b4) (fS s0 s1 s2 s3 s4) 1) (z3Y (fB b0 b1 b2 b3 b4) (fS s0 s1 s2 s3 s4) 2) (z3Y (fB b0 b1 b2 b3 b4) (fS s0 s1 s2 s3 s4) 3) (z3Y (fB b0 b1 b2 b3 b4) (fS s0 s1 s2 s3 s4) 4)):PCall P 124 [r5 b0 b1 b2 b3 b4 s0 s1 s2 s3 s4] (.lit (.bool ((↑(W7 (z3Y (fB b0 b1 b2 b3 b4) (fS s0 s1 s2 s3 s4) 0) (z3Y (fB b0 b1 b2 b3 b4) (fS s0 s1 s2 s3 s4) 1) (z3Y (fB b0 b1 b2 b3 b4) (fS s0 s1 s2 s3 s4) 2) (z3Y (fB b0 b1 b2 b3 b4) (fS s0 s1 s2 s3 s4) 3) (z3Y (fB b0 b1 b2 b3 b4) (fS s0 s1 s2 s3 s4) 4)):Int)==1))):=
 j5 (.r 3 (zdq (b0) (b1) (b2) (b3) (b4) (s0) (s1) (s2) (s3) (s4) s3_0) (.c (lq 5 5) (.c (bq 4 5) (.b 15 h1 (.r 17 (zpE (z3Y (fB b0 b1 b2 b3 b4) (fS s0 s1 s2 s3 s4) 0) (z3Y (fB b0 b1 b2 b3 b4) (fS s0 s1 s2 s3 s4) 1) (z3Y (fB b0 b1 b2 b3 b4) (fS s0 s1 s2 s3 s4) 2) (z3Y (fB b0 b1 b2 b3 b4) (fS s0 s1 s2 s3 s4) 3) (z3Y (fB b0 b1 b2 b3 b4) (fS s0 s1 s2 s3 s4) 4) s17_0) .nil))))) (by kernel_rfl)
theorem znx(b0 b1 b2 b3 b4:Bool)(s0 s1 s2 s3 s4:ByteArray)(h1:decide (z3Y (fB b0 b1 b2 b3 b4) (fS s0 s1 s2 s3 s4) 4>0)=false)(s3_0: ∀(i:Nat),i<5→z69 (fB b0 b1 b2 b3 b4) (fS s0 s1 s2 s3 s4) i):PCall P 124 [r5 b0 b1 b2 b3 b4 s0 s1 s2 s3 s4] (.lit (.bool false)):=
 j5 (.r 3 (zdq (b0) (b1) (b2) (b3) (b4) (s0) (s1) (s2) (s3) (s4) s3_0) (.c (lq 5 5) (.c (bq 4 5) (.b 15 h1 .nil)))) (by kernel_rfl)
theorem znU(b0 b1 b2 b3 b4:Bool)(s0 s1 s2 s3 s4:ByteArray)(h1:(J2 b0 s0)=true)(h2:(J2 b1 s1)=true)(h3:(J2 b2 s2)=true)(h4:(J2 b3 s3)=true)(h5:(J2 b4 s4)=false):PCall P 154 [r5 b0 b1 b2 b3 b4 s0 s1 s2 s3 s4] (.lit (.bool false)):=
 j5 (.c (bq 0 4) (.c (lq 2 2) (.r 12 ((W4 (b0) (s0)).eqB h1) (.c (bq 1 4) (.c (lq 2 2) (.r 24 ((W4 (b1) (s1)).eqB h2) (.c (bq 2 4) (.c (lq 2 2) (.r 36 ((W4 (b2) (s2)).eqB h3) (.c (bq 3 4) (.c (lq 2 2) (.r 48 ((W4 (b3) (s3)).eqB h4) (.r 58 ((W4 (b4) (s4)).eqB h5) .nil))))))))))))) (by kernel_rfl)
theorem zmm(b0 b1 b2 b3 b4:Bool)(s0 s1 s2 s3 s4:ByteArray)(h1:(J2 b0 s0)=true)(h2:(J2 b1 s1)=true)(h3:(J2 b2 s2)=true)(h4:(J2 b3 s3)=false):PCall P 154 [r5 b0 b1 b2 b3 b4 s0 s1 s2 s3 s4] (.lit (.bool false)):=
 j5 (.c (bq 0 4) (.c (lq 2 2) (.r 12 ((W4 (b0) (s0)).eqB h1) (.c (bq 1 4) (.c (lq 2 2) (.r 24 ((W4 (b1) (s1)).eqB h2) (.c (bq 2 4) (.c (lq 2 2) (.r 36 ((W4 (b2) (s2)).eqB h3) (.c (bq 3 4) (.c (lq 2 2) (.r 48 ((W4 (b3) (s3)).eqB h4) .nil)))))))))))) (by kernel_rfl)
theorem znJ(b0 b1 b2 b3 b4:Bool)(s0 s1 s2 s3 s4:ByteArray)(h1:(J2 b0 s0)=true)(h2:(J2 b1 s1)=true)(h3:(J2 b2 s2)=false):PCall P 154 [r5 b0 b1 b2 b3 b4 s0 s1 s2 s3 s4] (.lit (.bool false)):=
 j5 (.c (bq 0 4) (.c (lq 2 2) (.r 12 ((W4 (b0) (s0)).eqB h1) (.c (bq 1 4) (.c (lq 2 2) (.r 24 ((W4 (b1) (s1)).eqB h2) (.c (bq 2 4) (.c (lq 2 2) (.r 36 ((W4 (b2) (s2)).eqB h3) .nil))))))))) (by kernel_rfl)
theorem znr(b0 b1 b2 b3 b4:Bool)(s0 s1 s2 s3 s4:ByteArray)(h1:(J2 b0 s0)=true)(h2:(J2 b1 s1)=false):PCall P 154 [r5 b0 b1 b2 b3 b4 s0 s1 s2 s3 s4] (.lit (.bool false)):=
 j5 (.c (bq 0 4) (.c (lq 2 2) (.r 12 ((W4 (b0) (s0)).eqB h1) (.c (bq 1 4) (.c (lq 2 2) (.r 24 ((W4 (b1) (s1)).eqB h2) .nil)))))) (by kernel_rfl)
theorem zom(b0 b1 b2 b3 b4:Bool)(s0 s1 s2 s3 s4:ByteArray)(h1:(J2 b0 s0)=false):PCall P 154 [r5 b0 b1 b2 b3 b4 s0 s1 s2 s3 s4] (.lit (.bool false)):=
 j5 (.c (bq 0 4) (.c (lq 2 2) (.r 12 ((W4 (b0) (s0)).eqB h1) .nil))) (by kernel_rfl)
end Go.Fw
open Go IntKind
namespace Go.Fw
set_option maxRecDepth 100000
theorem zgl(a b:Int)(s5_0:SmlZ a)(s5_1:SmlZ b)(s5_2:b≠0)(s5_3:b∣a):PCall P 244 [J6 a,J6 b] (.agg [.lit (.bool (decide (a/b<0))),.lit (.string (bytesOf (a/b).natAbs))]):=
 j5 (.r 5 (zfz (a) (b) s5_0 s5_1 s5_2 s5_3) (.c (lq 2 2) (.c (lq 2 2) (.c (lq 2 2) .nil)))) (by kernel_rfl)
end Go.Fw
open Go
namespace Go.Fw
theorem z0k(a b:Int)(ha:SmlZ a)(hb:SmlZ b)(hb0:b≠0)(hd:b∣a):PCall P 244 [J6 a,J6 b] (J6 (a/b)):=zgl a b ha hb hb0 hd
end Go.Fw
