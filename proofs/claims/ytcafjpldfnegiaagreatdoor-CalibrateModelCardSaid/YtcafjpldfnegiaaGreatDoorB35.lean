/- A part of the proof that the law returns true for every input: an executor for the model's code, and what functions of the program compute. -/
import Derived.Test.YtcafjpldfnegiaaGreatDoorB11
import Derived.Test.YtcafjpldfnegiaaGreatDoorB15
import Derived.Test.YtcafjpldfnegiaaGreatDoorB34
import Derived.KernelRfl
open Go IntKind
namespace Go.Fw
set_option maxRecDepth 100000
theorem zp7(a b:Int)(h1:(decide (a.natAbs<72057594037927936))=true)(h2:(decide (b.natAbs<72057594037927936))=true)(d:(-9223372036854775808:Int)≤i64.wrap ((if a.natAbs<72057594037927936 then a else(0:Int))+if b.natAbs<72057594037927936 then b else(0:Int))∧i64.wrap ((if a.natAbs<72057594037927936 then a else(0:Int))+if b.natAbs<72057594037927936 then b else(0:Int))≤9223372036854775807):PCall P 127 [J2 a,J2 b] (.agg [.lit (.bool (decide (i64.wrap ((if a.natAbs<72057594037927936 then a else(0:Int))+if b.natAbs<72057594037927936 then b else(0:Int))<0))),.lit (.string (bytesOf (i64.wrap ((if a.natAbs<72057594037927936 then a else(0:Int))+if b.natAbs<72057594037927936 then b else(0:Int))).natAbs))]):=
 j3 (.r 4 (J3 a) (.r 8 (J3 b) (.r 13 (z0t a) (.b 20 h1 (.r 22 (z0t b) (.b 29 h2 (.r 33 (Z5 (i64.wrap ((if a.natAbs<72057594037927936 then a else(0:Int))+if b.natAbs<72057594037927936 then b else(0:Int))) d) (.c (lq 2 2) .nil)))))))) (by kernel_rfl)
theorem znZ(a b:Int)(h1:(decide (a.natAbs<72057594037927936))=true)(h2:(decide (b.natAbs<72057594037927936))=false)(h3:(decide (a<0)==decide (b<0))=true)(d:Sml a.natAbs)(e:Sml b.natAbs)(g:(dig 16777216 a.natAbs).length<2^40)(i:(dig 16777216 b.natAbs).length<2^40)(j:(dig 16777216 (a.natAbs+b.natAbs)).length<2^40)(o10:List.take ((dig 16777216 a.natAbs).length*1) (List.drop 0 (own (j4 (dig 16777216 a.natAbs))))=List.map MV.cv (j4 (dig 16777216 a.natAbs)))(o11:List.take ((dig 16777216 b.natAbs).length*1) (List.drop 0 (own (j4 (dig 16777216 b.natAbs))))=List.map MV.cv (j4 (dig 16777216 b.natAbs))):PCall P 127 [J2 a,J2 b] (.agg [.lit (.bool (decide ((if decide (a<0)=true then-(↑(a.natAbs+b.natAbs):Int)else(↑(a.natAbs+b.natAbs):Int))<0))),.lit (.string (bytesOf (if decide (a<0)=true then-(↑(a.natAbs+b.natAbs):Int)else(↑(a.natAbs+b.natAbs):Int)).natAbs))]):=
 j3 (.r 4 (J3 a) (.r 8 (J3 b) (.r 13 (z0t a) (.b 20 h1 (.r 22 (z0t b) (.b 29 h2 (.f 32 (Q2 a.natAbs d) (.f 35 (Q2 b.natAbs e) (.b 44 h3 (.rs 49 [j4 (dig 16777216 a.natAbs),j4 (dig 16777216 b.natAbs)] (zfu a.natAbs b.natAbs g i) (.c o10 (.c o11 (.r 50 (z1w (decide (a<0)) (a.natAbs+b.natAbs) j) (.c (lq 2 2) .nil)))))))))))))) (by kernel_rfl)
theorem zpU(a b:Int)(h1:(decide (a.natAbs<72057594037927936))=true)(h2:(decide (b.natAbs<72057594037927936))=false)(h3:(decide (a<0)==decide (b<0))=false)(h4:(decide (z1V a.natAbs b.natAbs≥0))=false)(d:Sml a.natAbs)(e:Sml b.natAbs)(g:(dig 16777216 a.natAbs).length<2^40)(i j:(dig 16777216 b.natAbs).length<2^40)(l:a.natAbs≤b.natAbs)(m:(dig 16777216 (b.natAbs-a.natAbs)).length<2^40)(o10:List.take ((dig 16777216 a.natAbs).length*1) (List.drop 0 (own (j4 (dig 16777216 a.natAbs))))=List.map MV.cv (j4 (dig 16777216 a.natAbs)))(o11 o14:List.take ((dig 16777216 b.natAbs).length*1) (List.drop 0 (own (j4 (dig 16777216 b.natAbs))))=List.map MV.cv (j4 (dig 16777216 b.natAbs)))(o15:List.take ((dig 16777216 a.natAbs).length*1) (List.drop 0 (own (j4 (dig 16777216 a.natAbs))))=List.map MV.cv (j4 (dig 16777216 a.natAbs))):PCall P 127 [J2 a,J2 b] (.agg [.lit (.bool (decide ((if decide (b<0)=true then-(↑(b.natAbs-a.natAbs):Int)else(↑(b.natAbs-a.natAbs):Int))<0))),.lit (.string (bytesOf (if decide (b<0)=true then-(↑(b.natAbs-a.natAbs):Int)else(↑(b.natAbs-a.natAbs):Int)).natAbs))]):=
 j3 (.c (J3 a) (.c (J3 b) (.c (z0t a) (.o 4 (.r (.lit (.bool true))) (.o 8 (.r (.lit (.bool true))) (.o 13 (.r (.tup [.lit (.int .i64 (if a.natAbs<72057594037927936 then a else(0:Int))),.lit (.bool (decide (a.natAbs<72057594037927936)))])) (.b 20 h1 (.c (z0t b) (.o 22 (.r (.tup [.lit (.int .i64 (if b.natAbs<72057594037927936 then b else(0:Int))),.lit (.bool (decide (b.natAbs<72057594037927936)))])) (.b 29 h2 (.c (Q2 a.natAbs d) (.c (Q2 b.natAbs e) (.o 32 (.f (.sl 0 0 (dig 16777216 a.natAbs).length 1) (j4 (dig B24 a.natAbs))) (.o 35 (.f (.sl 0 0 (dig 16777216 b.natAbs).length 1) (j4 (dig B24 b.natAbs))) (.b 44 h3 (.c (z4b a.natAbs b.natAbs g i) (.c o10 (.c o11 (.o 47 (.k (.lit (.int .i64 (z1V a.natAbs b.natAbs))) [j4 (dig 16777216 a.natAbs),j4 (dig 16777216 b.natAbs)]) (.b 50 h4 (.c (z3b b.natAbs a.natAbs j l) (.c o14 (.c o15 (.c (z1w (decide (b<0)) (b.natAbs-a.natAbs) m) (.c (lq 2 2) (.o 55 (.r (.lst (dig 16777216 (b.natAbs-a.natAbs)).length (j4 (dig 16777216 (b.natAbs-a.natAbs)))) [j4 (dig 16777216 b.natAbs),j4 (dig 16777216 a.natAbs)]) (.o 56 (.r (.agg [.lit (.bool (decide ((if decide (b<0)=true then-(↑(b.natAbs-a.natAbs):Int)else(↑(b.natAbs-a.natAbs):Int))<0))),.lit (.string (bytesOf (if decide (b<0)=true then-(↑(b.natAbs-a.natAbs):Int)else(↑(b.natAbs-a.natAbs):Int)).natAbs))])) .nil))))))))))))))))))))))))))) (by kernel_rfl)
theorem zqC(a b:Int)(h1:(decide (a.natAbs<72057594037927936))=false)(h2:(decide (a<0)==decide (b<0))=true)(d:Sml a.natAbs)(e:Sml b.natAbs)(g:(dig 16777216 a.natAbs).length<2^40)(i:(dig 16777216 b.natAbs).length<2^40)(j:(dig 16777216 (a.natAbs+b.natAbs)).length<2^40)(o8:List.take ((dig 16777216 a.natAbs).length*1) (List.drop 0 (own (j4 (dig 16777216 a.natAbs))))=List.map MV.cv (j4 (dig 16777216 a.natAbs)))(o9:List.take ((dig 16777216 b.natAbs).length*1) (List.drop 0 (own (j4 (dig 16777216 b.natAbs))))=List.map MV.cv (j4 (dig 16777216 b.natAbs))):PCall P 127 [J2 a,J2 b] (.agg [.lit (.bool (decide ((if decide (a<0)=true then-(↑(a.natAbs+b.natAbs):Int)else(↑(a.natAbs+b.natAbs):Int))<0))),.lit (.string (bytesOf (if decide (a<0)=true then-(↑(a.natAbs+b.natAbs):Int)else(↑(a.natAbs+b.natAbs):Int)).natAbs))]):=
 j3 (.r 4 (J3 a) (.r 8 (J3 b) (.r 13 (z0t a) (.b 20 h1 (.f 23 (Q2 a.natAbs d) (.f 26 (Q2 b.natAbs e) (.b 35 h2 (.rs 40 [j4 (dig 16777216 a.natAbs),j4 (dig 16777216 b.natAbs)] (zfu a.natAbs b.natAbs g i) (.c o8 (.c o9 (.r 41 (z1w (decide (a<0)) (a.natAbs+b.natAbs) j) (.c (lq 2 2) .nil)))))))))))) (by kernel_rfl)
theorem zog(a b:Int)(h1:(decide (a.natAbs<72057594037927936))=false)(h2:(decide (a<0)==decide (b<0))=false)(h3:(decide (z1V a.natAbs b.natAbs≥0))=true)(d:Sml a.natAbs)(e:Sml b.natAbs)(g:(dig 16777216 a.natAbs).length<2^40)(i:(dig 16777216 b.natAbs).length<2^40)(j:(dig 16777216 a.natAbs).length<2^40)(l:b.natAbs≤a.natAbs)(m:(dig 16777216 (a.natAbs-b.natAbs)).length<2^40)(o8:List.take ((dig 16777216 a.natAbs).length*1) (List.drop 0 (own (j4 (dig 16777216 a.natAbs))))=List.map MV.cv (j4 (dig 16777216 a.natAbs)))(o9:List.take ((dig 16777216 b.natAbs).length*1) (List.drop 0 (own (j4 (dig 16777216 b.natAbs))))=List.map MV.cv (j4 (dig 16777216 b.natAbs)))(o12:List.take ((dig 16777216 a.natAbs).length*1) (List.drop 0 (own (j4 (dig 16777216 a.natAbs))))=List.map MV.cv (j4 (dig 16777216 a.natAbs)))(o13:List.take ((dig 16777216 b.natAbs).length*1) (List.drop 0 (own (j4 (dig 16777216 b.natAbs))))=List.map MV.cv (j4 (dig 16777216 b.natAbs))):PCall P 127 [J2 a,J2 b] (.agg [.lit (.bool (decide ((if decide (a<0)=true then-(↑(a.natAbs-b.natAbs):Int)else(↑(a.natAbs-b.natAbs):Int))<0))),.lit (.string (bytesOf (if decide (a<0)=true then-(↑(a.natAbs-b.natAbs):Int)else(↑(a.natAbs-b.natAbs):Int)).natAbs))]):=
 j3 (.c (J3 a) (.c (J3 b) (.c (z0t a) (.o 4 (.r (.lit (.bool true))) (.o 8 (.r (.lit (.bool true))) (.o 13 (.r (.tup [.lit (.int .i64 (if a.natAbs<72057594037927936 then a else(0:Int))),.lit (.bool (decide (a.natAbs<72057594037927936)))])) (.b 20 h1 (.c (Q2 a.natAbs d) (.c (Q2 b.natAbs e) (.o 23 (.f (.sl 0 0 (dig 16777216 a.natAbs).length 1) (j4 (dig B24 a.natAbs))) (.o 26 (.f (.sl 0 0 (dig 16777216 b.natAbs).length 1) (j4 (dig B24 b.natAbs))) (.b 35 h2 (.c (z4b a.natAbs b.natAbs g i) (.c o8 (.c o9 (.o 38 (.k (.lit (.int .i64 (z1V a.natAbs b.natAbs))) [j4 (dig 16777216 a.natAbs),j4 (dig 16777216 b.natAbs)]) (.b 41 h3 (.c (z3b a.natAbs b.natAbs j l) (.c o12 (.c o13 (.c (z1w (decide (a<0)) (a.natAbs-b.natAbs) m) (.c (lq 2 2) (.o 46 (.r (.lst (dig 16777216 (a.natAbs-b.natAbs)).length (j4 (dig 16777216 (a.natAbs-b.natAbs)))) [j4 (dig 16777216 a.natAbs),j4 (dig 16777216 b.natAbs)]) (.o 47 (.r (.agg [.lit (.bool (decide ((if decide (a<0)=true then-(↑(a.natAbs-b.natAbs):Int)else(↑(a.natAbs-b.natAbs):Int))<0))),.lit (.string (bytesOf (if decide (a<0)=true then-(↑(a.natAbs-b.natAbs):Int)else(↑(a.natAbs-b.natAbs):Int)).natAbs))])) .nil)))))))))))))))))))))))) (by kernel_rfl)
theorem zqj(a b:Int)(h1:(decide (a.natAbs<72057594037927936))=false)(h2:(decide (a<0)==decide (b<0))=false)(h3:(decide (z1V a.natAbs b.natAbs≥0))=false)(d:Sml a.natAbs)(e:Sml b.natAbs)(g:(dig 16777216 a.natAbs).length<2^40)(i j:(dig 16777216 b.natAbs).length<2^40)(l:a.natAbs≤b.natAbs)(m:(dig 16777216 (b.natAbs-a.natAbs)).length<2^40)(o8:List.take ((dig 16777216 a.natAbs).length*1) (List.drop 0 (own (j4 (dig 16777216 a.natAbs))))=List.map MV.cv (j4 (dig 16777216 a.natAbs)))(o9 o12:List.take ((dig 16777216 b.natAbs).length*1) (List.drop 0 (own (j4 (dig 16777216 b.natAbs))))=List.map MV.cv (j4 (dig 16777216 b.natAbs)))(o13:List.take ((dig 16777216 a.natAbs).length*1) (List.drop 0 (own (j4 (dig 16777216 a.natAbs))))=List.map MV.cv (j4 (dig 16777216 a.natAbs))):PCall P 127 [J2 a,J2 b] (.agg [.lit (.bool (decide ((if decide (b<0)=true then-(↑(b.natAbs-a.natAbs):Int)else(↑(b.natAbs-a.natAbs):Int))<0))),.lit (.string (bytesOf (if decide (b<0)=true then-(↑(b.natAbs-a.natAbs):Int)else(↑(b.natAbs-a.natAbs):Int)).natAbs))]):=
 j3 (.c (J3 a) (.c (J3 b) (.c (z0t a) (.o 4 (.r (.lit (.bool true))) (.o 8 (.r (.lit (.bool true))) (.o 13 (.r (.tup [.lit (.int .i64 (if a.natAbs<72057594037927936 then a else(0:Int))),.lit (.bool (decide (a.natAbs<72057594037927936)))])) (.b 20 h1 (.c (Q2 a.natAbs d) (.c (Q2 b.natAbs e) (.o 23 (.f (.sl 0 0 (dig 16777216 a.natAbs).length 1) (j4 (dig B24 a.natAbs))) (.o 26 (.f (.sl 0 0 (dig 16777216 b.natAbs).length 1) (j4 (dig B24 b.natAbs))) (.b 35 h2 (.c (z4b a.natAbs b.natAbs g i) (.c o8 (.c o9 (.o 38 (.k (.lit (.int .i64 (z1V a.natAbs b.natAbs))) [j4 (dig 16777216 a.natAbs),j4 (dig 16777216 b.natAbs)]) (.b 41 h3 (.c (z3b b.natAbs a.natAbs j l) (.c o12 (.c o13 (.c (z1w (decide (b<0)) (b.natAbs-a.natAbs) m) (.c (lq 2 2) (.o 46 (.r (.lst (dig 16777216 (b.natAbs-a.natAbs)).length (j4 (dig 16777216 (b.natAbs-a.natAbs)))) [j4 (dig 16777216 b.natAbs),j4 (dig 16777216 a.natAbs)]) (.o 47 (.r (.agg [.lit (.bool (decide ((if decide (b<0)=true then-(↑(b.natAbs-a.natAbs):Int)else(↑(b.natAbs-a.natAbs):Int))<0))),.lit (.string (bytesOf (if decide (b<0)=true then-(↑(b.natAbs-a.natAbs):Int)else(↑(b.natAbs-a.natAbs):Int)).natAbs))])) .nil)))))))))))))))))))))))) (by kernel_rfl)
theorem zst(a b:Int)(h1:(decide (i64.wrap ((↑(bytesOf a.natAbs).size:Int)+(↑(bytesOf b.natAbs).size:Int))≤7))=true)(d:a.natAbs<256^7)(e:b.natAbs<256^7)(f:(-9223372036854775808:Int)≤i64.wrap (a*b)∧i64.wrap (a*b)≤9223372036854775807):PCall P 128 [J2 a,J2 b] (.agg [.lit (.bool (decide (i64.wrap (a*b)<0))),.lit (.string (bytesOf (i64.wrap (a*b)).natAbs))]):=
 j3 (.r 4 (J3 a) (.r 8 (J3 b) (.b 20 h1 (.r 22 (W7 a d) (.r 29 (W7 b e) (.r 38 (Z5 (i64.wrap (a*b)) f) (.c (lq 2 2) .nil))))))) (by kernel_rfl)
theorem zr1(a b:Int)(h1:(decide (i64.wrap ((↑(bytesOf a.natAbs).size:Int)+(↑(bytesOf b.natAbs).size:Int))≤7))=false)(d:Sml a.natAbs)(e:Sml b.natAbs)(g:(dig 16777216 a.natAbs).length<2^40)(i:(dig 16777216 b.natAbs).length<2^40)(j:(dig 16777216 (a.natAbs*b.natAbs)).length<2^40)(o6:List.take ((dig 16777216 a.natAbs).length*1) (List.drop 0 (own (j4 (dig 16777216 a.natAbs))))=List.map MV.cv (j4 (dig 16777216 a.natAbs)))(o7:List.take ((dig 16777216 b.natAbs).length*1) (List.drop 0 (own (j4 (dig 16777216 b.natAbs))))=List.map MV.cv (j4 (dig 16777216 b.natAbs))):PCall P 128 [J2 a,J2 b] (.agg [.lit (.bool (decide ((if(!decide (a<0)==decide (b<0))=true then-(↑(a.natAbs*b.natAbs):Int)else(↑(a.natAbs*b.natAbs):Int))<0))),.lit (.string (bytesOf (if(!decide (a<0)==decide (b<0))=true then-(↑(a.natAbs*b.natAbs):Int)else(↑(a.natAbs*b.natAbs):Int)).natAbs))]):=
 j3 (.r 4 (J3 a) (.r 8 (J3 b) (.b 20 h1 (.f 28 (Q2 a.natAbs d) (.f 31 (Q2 b.natAbs e) (.rs 32 [j4 (dig 16777216 a.natAbs),j4 (dig 16777216 b.natAbs)] (zg3 a.natAbs b.natAbs g i) (.c o6 (.c o7 (.r 33 (z1w (!decide (a<0)==decide (b<0)) (a.natAbs*b.natAbs) j) (.c (lq 2 2) .nil)))))))))) (by kernel_rfl)
theorem zm1(a b:Int)(g0:((bytesOf b.natAbs).toList==[])=false)(g3:decide ((↑(dig B24 (a.natAbs%b.natAbs)).length:Int)>0)=false)(h1:(!decide (a<0)==decide (b<0))=true)(d:256^7≤a.natAbs)(e:Sml a.natAbs)(g:Sml b.natAbs)(i:b.natAbs≠0)(j:(dig 16777216 a.natAbs).length<2^36)(k:(dig 16777216 b.natAbs).length<2^36)(l:(dig 16777216 (a.natAbs/b.natAbs)).length<2^40)(m:(dig 16777216 (a.natAbs%b.natAbs)).length<2^40)(o7:List.take ((dig 16777216 a.natAbs).length*1) (List.drop 0 (own (j4 (dig 16777216 a.natAbs))))=List.map MV.cv (j4 (dig 16777216 a.natAbs)))(o8:List.take ((dig 16777216 b.natAbs).length*1) (List.drop 0 (own (j4 (dig 16777216 b.natAbs))))=List.map MV.cv (j4 (dig 16777216 b.natAbs))):PCall P 233 [J2 a,J2 b] (.tup [.agg [.lit (.bool (decide ((if(!decide (a<0)==decide (b<0))=true then-(↑(a.natAbs/b.natAbs):Int)else(↑(a.natAbs/b.natAbs):Int))<0))),.lit (.string (bytesOf (if(!decide (a<0)==decide (b<0))=true then-(↑(a.natAbs/b.natAbs):Int)else(↑(a.natAbs/b.natAbs):Int)).natAbs))],.agg [.lit (.bool (decide ((if decide (b<0)=true then-(↑(a.natAbs%b.natAbs):Int)else(↑(a.natAbs%b.natAbs):Int))<0))),.lit (.string (bytesOf (if decide (b<0)=true then-(↑(a.natAbs%b.natAbs):Int)else(↑(a.natAbs%b.natAbs):Int)).natAbs))],.lit (.int .i64 0)]):=
 j3 (.r 6 (J3 a) (.r 10 (J3 b) (.b 17 g0 (.r 19 (z28 a d) (.f 35 (Q2 a.natAbs e) (.f 38 (Q2 b.natAbs g) (.rs 39 [j4 (dig 16777216 a.natAbs),j4 (dig 16777216 b.natAbs)] (z13 a.natAbs b.natAbs i j k) (.c o7 (.c o8 (.b 50 h1 (.b 55 g3 (.r 62 (z1w (!decide (a<0)==decide (b<0)) (a.natAbs/b.natAbs) l) (.r 66 (z1w (decide (b<0)) (a.natAbs%b.natAbs) m) (.c (lq 2 2) (.c (lq 2 2) .nil))))))))))))))) (by kernel_rfl)
theorem zl9(a b:Int)(g0:((bytesOf b.natAbs).toList==[])=false)(_g3:decide ((↑(dig B24 (a.natAbs%b.natAbs)).length:Int)>0)=false)(h1:(!decide (a<0)==decide (b<0))=false)(d:256^7≤a.natAbs)(e:Sml a.natAbs)(g:Sml b.natAbs)(i:b.natAbs≠0)(j:(dig 16777216 a.natAbs).length<2^36)(k:(dig 16777216 b.natAbs).length<2^36)(l:(dig 16777216 (a.natAbs/b.natAbs)).length<2^40)(m:(dig 16777216 (a.natAbs%b.natAbs)).length<2^40)(o7:List.take ((dig 16777216 a.natAbs).length*1) (List.drop 0 (own (j4 (dig 16777216 a.natAbs))))=List.map MV.cv (j4 (dig 16777216 a.natAbs)))(o8:List.take ((dig 16777216 b.natAbs).length*1) (List.drop 0 (own (j4 (dig 16777216 b.natAbs))))=List.map MV.cv (j4 (dig 16777216 b.natAbs))):PCall P 233 [J2 a,J2 b] (.tup [.agg [.lit (.bool (decide ((if(!decide (a<0)==decide (b<0))=true then-(↑(a.natAbs/b.natAbs):Int)else(↑(a.natAbs/b.natAbs):Int))<0))),.lit (.string (bytesOf (if(!decide (a<0)==decide (b<0))=true then-(↑(a.natAbs/b.natAbs):Int)else(↑(a.natAbs/b.natAbs):Int)).natAbs))],.agg [.lit (.bool (decide ((if decide (b<0)=true then-(↑(a.natAbs%b.natAbs):Int)else(↑(a.natAbs%b.natAbs):Int))<0))),.lit (.string (bytesOf (if decide (b<0)=true then-(↑(a.natAbs%b.natAbs):Int)else(↑(a.natAbs%b.natAbs):Int)).natAbs))],.lit (.int .i64 0)]):=
 j3 (.r 6 (J3 a) (.r 10 (J3 b) (.b 17 g0 (.r 19 (z28 a d) (.f 35 (Q2 a.natAbs e) (.f 38 (Q2 b.natAbs g) (.rs 39 [j4 (dig 16777216 a.natAbs),j4 (dig 16777216 b.natAbs)] (z13 a.natAbs b.natAbs i j k) (.c o7 (.c o8 (.b 50 h1 (.r 62 (z1w (!decide (a<0)==decide (b<0)) (a.natAbs/b.natAbs) l) (.r 66 (z1w (decide (b<0)) (a.natAbs%b.natAbs) m) (.c (lq 2 2) (.c (lq 2 2) .nil)))))))))))))) (by kernel_rfl)
theorem zlE(a b:Int)(g0:((bytesOf b.natAbs).toList==[])=false)(g2:decide ((↑(bytesOf b.natAbs).size:Int)≤7)=false)(g3:decide ((↑(dig B24 (a.natAbs%b.natAbs)).length:Int)>0)=false)(h1:(!decide (a<0)==decide (b<0))=true)(d:a.natAbs<256^7)(e:Sml a.natAbs)(g:Sml b.natAbs)(i:b.natAbs≠0)(j:(dig 16777216 a.natAbs).length<2^36)(k:(dig 16777216 b.natAbs).length<2^36)(l:(dig 16777216 (a.natAbs/b.natAbs)).length<2^40)(m:(dig 16777216 (a.natAbs%b.natAbs)).length<2^40)(o8:List.take ((dig 16777216 a.natAbs).length*1) (List.drop 0 (own (j4 (dig 16777216 a.natAbs))))=List.map MV.cv (j4 (dig 16777216 a.natAbs)))(o9:List.take ((dig 16777216 b.natAbs).length*1) (List.drop 0 (own (j4 (dig 16777216 b.natAbs))))=List.map MV.cv (j4 (dig 16777216 b.natAbs))):PCall P 233 [J2 a,J2 b] (.tup [.agg [.lit (.bool (decide ((if(!decide (a<0)==decide (b<0))=true then-(↑(a.natAbs/b.natAbs):Int)else(↑(a.natAbs/b.natAbs):Int))<0))),.lit (.string (bytesOf (if(!decide (a<0)==decide (b<0))=true then-(↑(a.natAbs/b.natAbs):Int)else(↑(a.natAbs/b.natAbs):Int)).natAbs))],.agg [.lit (.bool (decide ((if decide (b<0)=true then-(↑(a.natAbs%b.natAbs):Int)else(↑(a.natAbs%b.natAbs):Int))<0))),.lit (.string (bytesOf (if decide (b<0)=true then-(↑(a.natAbs%b.natAbs):Int)else(↑(a.natAbs%b.natAbs):Int)).natAbs))],.lit (.int .i64 0)]):=
 j3 (.r 6 (J3 a) (.r 10 (J3 b) (.b 17 g0 (.r 19 (W7 a d) (.b 32 g2 (.f 35 (Q2 a.natAbs e) (.f 38 (Q2 b.natAbs g) (.rs 39 [j4 (dig 16777216 a.natAbs),j4 (dig 16777216 b.natAbs)] (z13 a.natAbs b.natAbs i j k) (.c o8 (.c o9 (.b 50 h1 (.b 55 g3 (.r 62 (z1w (!decide (a<0)==decide (b<0)) (a.natAbs/b.natAbs) l) (.r 66 (z1w (decide (b<0)) (a.natAbs%b.natAbs) m) (.c (lq 2 2) (.c (lq 2 2) .nil)))))))))))))))) (by kernel_rfl)
theorem zn3(a b:Int)(g0:((bytesOf b.natAbs).toList==[])=false)(g2:decide ((↑(bytesOf b.natAbs).size:Int)≤7)=false)(_g3:decide ((↑(dig B24 (a.natAbs%b.natAbs)).length:Int)>0)=false)(h1:(!decide (a<0)==decide (b<0))=false)(d:a.natAbs<256^7)(e:Sml a.natAbs)(g:Sml b.natAbs)(i:b.natAbs≠0)(j:(dig 16777216 a.natAbs).length<2^36)(k:(dig 16777216 b.natAbs).length<2^36)(l:(dig 16777216 (a.natAbs/b.natAbs)).length<2^40)(m:(dig 16777216 (a.natAbs%b.natAbs)).length<2^40)(o8:List.take ((dig 16777216 a.natAbs).length*1) (List.drop 0 (own (j4 (dig 16777216 a.natAbs))))=List.map MV.cv (j4 (dig 16777216 a.natAbs)))(o9:List.take ((dig 16777216 b.natAbs).length*1) (List.drop 0 (own (j4 (dig 16777216 b.natAbs))))=List.map MV.cv (j4 (dig 16777216 b.natAbs))):PCall P 233 [J2 a,J2 b] (.tup [.agg [.lit (.bool (decide ((if(!decide (a<0)==decide (b<0))=true then-(↑(a.natAbs/b.natAbs):Int)else(↑(a.natAbs/b.natAbs):Int))<0))),.lit (.string (bytesOf (if(!decide (a<0)==decide (b<0))=true then-(↑(a.natAbs/b.natAbs):Int)else(↑(a.natAbs/b.natAbs):Int)).natAbs))],.agg [.lit (.bool (decide ((if decide (b<0)=true then-(↑(a.natAbs%b.natAbs):Int)else(↑(a.natAbs%b.natAbs):Int))<0))),.lit (.string (bytesOf (if decide (b<0)=true then-(↑(a.natAbs%b.natAbs):Int)else(↑(a.natAbs%b.natAbs):Int)).natAbs))],.lit (.int .i64 0)]):=
 j3 (.r 6 (J3 a) (.r 10 (J3 b) (.b 17 g0 (.r 19 (W7 a d) (.b 32 g2 (.f 35 (Q2 a.natAbs e) (.f 38 (Q2 b.natAbs g) (.rs 39 [j4 (dig 16777216 a.natAbs),j4 (dig 16777216 b.natAbs)] (z13 a.natAbs b.natAbs i j k) (.c o8 (.c o9 (.b 50 h1 (.r 62 (z1w (!decide (a<0)==decide (b<0)) (a.natAbs/b.natAbs) l) (.r 66 (z1w (decide (b<0)) (a.natAbs%b.natAbs) m) (.c (lq 2 2) (.c (lq 2 2) .nil))))))))))))))) (by kernel_rfl)
theorem zgo{n:Nat}(h:Sml n):(dig 16777216 n).length<2^40:=by have:(dig 16777216 n).length<2^31:=h.dig24;omega
theorem zi0{n:Nat}(h:Sml n):(dig 16777216 n).length<2^36:=by have:(dig 16777216 n).length<2^31:=h.dig24;omega
theorem z9z{a b:Nat}:z1V a b≥0↔b≤a:=by
 have:=z7g (a:=a) (b:=b)
 omega
theorem zan{a b:Int}(h:(decide (a<0)==decide (b<0))=true):(if decide (a<0)=true then-((a.natAbs+b.natAbs:Nat):Int)else((a.natAbs+b.natAbs:Nat):Int))=a+b:=by
 simp only[decide_eq_true_eq]
 rw[beq_iff_eq,decide_eq_decide]at h
 split<;>omega
theorem zaY{a b:Int}(h:(decide (a<0)==decide (b<0))=false)(hle:b.natAbs≤a.natAbs):(if decide (a<0)=true then-((a.natAbs-b.natAbs:Nat):Int)else((a.natAbs-b.natAbs:Nat):Int))=a+b:=by
 simp only[decide_eq_true_eq]
 rw[beq_eq_false_iff_ne,Ne,decide_eq_decide]at h
 split<;>omega
theorem z9j{a b:Int}(h:(decide (a<0)==decide (b<0))=false)(hle:a.natAbs≤b.natAbs):(if decide (b<0)=true then-((b.natAbs-a.natAbs:Nat):Int)else((b.natAbs-a.natAbs:Nat):Int))=a+b:=by
 rw[zaY (a:=b) (b:=a) (by rw[beq_eq_false_iff_ne]at h ⊢;exact fun e=>h e.symm) hle,Int.add_comm]
theorem z0v(a b:Int)(ha:Sml a.natAbs)(hb:Sml b.natAbs)(hs:Sml (a.natAbs+b.natAbs)):PCall P 127 [J2 a,J2 b] (J2 (a+b)):=by
 have la:=zgo ha
 have lb:=zgo hb
 have ls:=zgo hs
 have ld:=zgo (hs.mono (show a.natAbs-b.natAbs≤a.natAbs+b.natAbs by omega))
 have ld':=zgo (hs.mono (show b.natAbs-a.natAbs≤a.natAbs+b.natAbs by omega))
 have oa:=z01 (dig 16777216 a.natAbs)
 have ob:=z01 (dig 16777216 b.natAbs)
 by_cases h1:a.natAbs<72057594037927936
 · by_cases h2:b.natAbs<72057594037927936
   · have:=zp7 a b (decide_eq_true h1) (decide_eq_true h2) (by rw[if_pos h1,if_pos h2,w64 (by omega)];omega)
     rw[if_pos h1,if_pos h2,w64 (by omega)]at this
     exact this
   · cases h3:(decide (a<0)==decide (b<0))
     · by_cases h4:b.natAbs≤a.natAbs
       · omega
       · have:=zpU a b (decide_eq_true h1) (decide_eq_false h2) h3 (decide_eq_false (fun h=>h4 (z9z.1 h))) ha hb la lb lb (by omega) ld' oa ob ob oa
         rw[z9j h3 (by omega)]at this
         exact this
     · have:=znZ a b (decide_eq_true h1) (decide_eq_false h2) h3 ha hb la lb ls oa ob
       rw[zan h3]at this
       exact this
 · cases h3:(decide (a<0)==decide (b<0))
   · by_cases h4:b.natAbs≤a.natAbs
     · have:=zog a b (decide_eq_false h1) h3 (decide_eq_true (z9z.2 h4)) ha hb la lb la h4 ld oa ob oa ob
       rw[zaY h3 h4]at this
       exact this
     · have:=zqj a b (decide_eq_false h1) h3 (decide_eq_false (fun h=>h4 (z9z.1 h))) ha hb la lb lb (by omega) ld' oa ob ob oa
       rw[z9j h3 (by omega)]at this
       exact this
   · have:=zqC a b (decide_eq_false h1) h3 ha hb la lb ls oa ob
     rw[zan h3]at this
     exact this
theorem sgn_mul{a b:Int}:(if(!(decide (a<0)==decide (b<0)))=true then-((a.natAbs*b.natAbs:Nat):Int)else((a.natAbs*b.natAbs:Nat):Int))=a*b:=by
 have e:(a*b).natAbs=a.natAbs*b.natAbs:=Int.natAbs_mul a b
 rw[←e]
 rcases Int.lt_or_le a 0 with ha|ha<;>rcases Int.lt_or_le b 0 with hb|hb
 · have hp:0<a*b:=Int.mul_pos_of_neg_of_neg ha hb
   generalize a*b=p at*
   rw[decide_eq_true ha,decide_eq_true hb,if_neg (by decide)];omega
 · have hp:a*b≤0:=Int.mul_nonpos_of_nonpos_of_nonneg (by omega) hb
   generalize a*b=p at*
   rw[decide_eq_true ha,decide_eq_false (by omega),if_pos (by decide)];omega
 · have hp:a*b≤0:=Int.mul_nonpos_of_nonneg_of_nonpos ha (by omega)
   generalize a*b=p at*
   rw[decide_eq_false (by omega),decide_eq_true hb,if_pos (by decide)];omega
 · have hp:0≤a*b:=Int.mul_nonneg ha hb
   generalize a*b=p at*
   rw[decide_eq_false (by omega),decide_eq_false (by omega),if_neg (by decide)];omega
theorem Y5(a b:Int)(ha:Sml a.natAbs)(hb:Sml b.natAbs)(hs:Sml (a.natAbs*b.natAbs)):PCall P 128 [J2 a,J2 b] (J2 (a*b)):=by
 have sa:=ha.size
 have sb:=hb.size
 have hw:i64.wrap (((bytesOf a.natAbs).size:Int)+((bytesOf b.natAbs).size:Int))=(((bytesOf a.natAbs).size+(bytesOf b.natAbs).size:Nat):Int):=by rw[w64 (by omega)];omega
 by_cases h1:(bytesOf a.natAbs).size+(bytesOf b.natAbs).size≤7
 · have k1:a.natAbs<256^(bytesOf a.natAbs).size:=V7.1 (Nat.le_refl _)
   have k2:b.natAbs<256^(bytesOf b.natAbs).size:=V7.1 (Nat.le_refl _)
   have k3:a.natAbs*b.natAbs<256^7:=by
    refine Nat.lt_of_lt_of_le (Nat.mul_lt_mul'' k1 k2) ?_
    rw[←Nat.pow_add]
    exact Nat.pow_le_pow_right (by decide) h1
   have l1:a.natAbs<256^7:=Nat.lt_of_lt_of_le k1 (Nat.pow_le_pow_right (by decide) (by omega))
   have l2:b.natAbs<256^7:=Nat.lt_of_lt_of_le k2 (Nat.pow_le_pow_right (by decide) (by omega))
   have e:(a*b).natAbs=a.natAbs*b.natAbs:=Int.natAbs_mul a b
   rw[←e]at k3
   have hw2:i64.wrap (a*b)=a*b:=by
    generalize a*b=p at*
    exact w64 (by omega)
   have:=zst a b (by rw[hw];exact decide_eq_true (by omega)) l1 l2 (by
    rw[hw2]
    generalize a*b=p at*
    omega)
   rw[hw2]at this
   exact this
 · have:=zr1 a b (by rw[hw];exact decide_eq_false (by omega)) ha hb (zgo ha) (zgo hb) (zgo hs) (z01 _) (z01 _)
   rw[sgn_mul]at this
   exact this
theorem zcB{a b:Int}(hb:b≠0)(hd:b∣a):(if(!(decide (a<0)==decide (b<0)))=true then-((a.natAbs/b.natAbs:Nat):Int)else((a.natAbs/b.natAbs:Nat):Int))=a/b:=by
 obtain⟨k,rfl⟩:=hd
 have hb0:0<b.natAbs:=by omega
 rw[Int.mul_ediv_cancel_left _ hb,Int.natAbs_mul,Nat.mul_div_cancel_left _ hb0]
 rcases Int.lt_trichotomy k 0 with hk|hk|hk
 · rcases Int.lt_or_le b 0 with h|h
   · have hp:0<b*k:=Int.mul_pos_of_neg_of_neg h hk
     rw[decide_eq_false (by omega),decide_eq_true h,if_pos (by decide)];omega
   · have hp:b*k<0:=Int.mul_neg_of_pos_of_neg (by omega) hk
     rw[decide_eq_true hp,decide_eq_false (by omega),if_pos (by decide)];omega
 · subst hk;simp
 · rcases Int.lt_or_le b 0 with h|h
   · have hp:b*k<0:=Int.mul_neg_of_neg_of_pos h hk
     rw[decide_eq_true hp,decide_eq_true h,if_neg (by decide)];omega
   · have hp:0<b*k:=Int.mul_pos (by omega) hk
     rw[decide_eq_false (by omega),decide_eq_false (by omega),if_neg (by decide)];omega
theorem z7Z(a b:Int)(ha:Sml a.natAbs)(hb:Sml b.natAbs)(hb0:b≠0)(hd:b∣a):PCall P 233 [J2 a,J2 b] (.tup [J2 (a/b),J2 0,j5 0]):=by
 have nb:b.natAbs≠0:=by omega
 have hm:a.natAbs%b.natAbs=0:=Nat.mod_eq_zero_of_dvd (Int.natAbs_dvd_natAbs.2 hd)
 have g0:((bytesOf b.natAbs).toList==[])=false:=by rw[Q3];simpa using hb0
 have g3:decide ((((dig B24 (a.natAbs%b.natAbs)).length:Nat):Int)>0)=false:=by rw[hm];rfl
 have lq:=zgo (ha.mono (Nat.div_le_self a.natAbs b.natAbs))
 have lr:(dig 16777216 (a.natAbs%b.natAbs)).length<2^40:=by rw[hm];decide
 have hr:(if decide (b<0)=true then-((a.natAbs%b.natAbs:Nat):Int)else((a.natAbs%b.natAbs:Nat):Int))=0:=by rw[hm];split<;>rfl
 by_cases h1:a.natAbs<256^7
 · by_cases h2:b.natAbs<256^7
   · exact ziL a b h1 h2 hb0 hd
   · have g2:decide (((bytesOf b.natAbs).size:Int)≤7)=false:=decide_eq_false (fun h=>h2 (V7.1 (by omega)))
     have key: ∀s,(!(decide (a<0)==decide (b<0)))=s→PCall P 233 [J2 a,J2 b] (.tup [J2 (if(!(decide (a<0)==decide (b<0)))=true then-((a.natAbs/b.natAbs:Nat):Int)else((a.natAbs/b.natAbs:Nat):Int)),J2 (if decide (b<0)=true then-((a.natAbs%b.natAbs:Nat):Int)else((a.natAbs%b.natAbs:Nat):Int)),j5 0]):=by
      intro s hs
      cases s
      · exact zn3 a b g0 g2 g3 hs h1 ha hb nb (zi0 ha) (zi0 hb) lq lr (z01 _) (z01 _)
      · exact zlE a b g0 g2 g3 hs h1 ha hb nb (zi0 ha) (zi0 hb) lq lr (z01 _) (z01 _)
     have:=key _ rfl
     rw[zcB hb0 hd,hr]at this
     exact this
 · have key : ∀ s, (!(decide (a < 0) == decide (b < 0))) = s → PCall P 233 [J2 a, J2 b] (.tup [J2 (if (!(decide (a < 0) == decide (b < 0))) = true then -((a.natAbs / b.natAbs : Nat) : Int) else ((a.natAbs / b.natAbs : Nat) : Int)), J2 (if decide (b < 0) = true then -((a.natAbs % b.natAbs : Nat) : Int) else ((a.natAbs % b.natAbs : Nat) : Int)), j5 0]) := by
     intro s hs
     cases s
     · exact zl9 a b g0 g3 hs (Nat.le_of_not_lt h1) ha hb nb (zi0 ha) (zi0 hb) lq lr (z01 _) (z01 _)
     · exact zm1 a b g0 g3 hs (Nat.le_of_not_lt h1) ha hb nb (zi0 ha) (zi0 hb) lq lr (z01 _) (z01 _)
   have:=key _ rfl
   rw[zcB hb0 hd,hr]at this
   exact this
theorem z2f(a b:Int)(ha:Sml a.natAbs)(hb:Sml b.natAbs)(hb0:b≠0)(hd:b∣a):z2K a b:=
 zib a b (by rw[Q3];simpa using hb0) (z7Z a b ha hb hb0 hd) (z7Z a b ha hb hb0 hd)
theorem z6o{b:Bool}{s:ByteArray}(h:J5 b s=true):s=bytesOf (J9 s):=by
 have hs:=z4R s
 rw[←zea]
 unfold J5 at h
 by_cases h0:s.size=0
 · have:z2B s=[]:=List.length_eq_zero_iff.1 (by rw[V8];exact h0)
   rw[this]at hs ⊢
   exact hs.symm
 · rw[if_neg h0,decide_eq_true_eq]at h
   have hne:z2B s≠[]:=by
    intro e
    have:=V8 s
    rw[e]at this
    exact h0 this.symm
   have hc:=U2 hne
   generalize (z2B s).take ((z2B s).length-1)=l at hc
   generalize hx:(z2B s).getD ((z2B s).length-1) 0=x at hc
   have hf:=z3K l x
   rw[←hc,hs]at hf
   rw[hf]at h
   have hx0:x≠0:=by rintro rfl;exact h rfl
   have:tz (z2B s)=z2B s:=by rw[hc];exact z0P hx0 l
   rw[this,hs]
theorem z04{b:Bool}{s:ByteArray}(h:J5 b s=true):s=bytesOf (J9 s)∧b=decide (zOf b s<0)∧(zOf b s).natAbs=J9 s:=by
 refine⟨z6o h,?_,?_⟩
 · cases b
   · simp only[zOf,Bool.false_eq_true,if_false]
     exact(decide_eq_false (by omega)).symm
   · have hz : J9 s ≠ 0 := by
       intro e
       have h1:=z6o h
       rw[e]at h1
       rw[h1]at h
       revert h
       decide
     simp only[zOf,if_true]
     exact(decide_eq_true (by omega)).symm
 · cases b<;>simp only[zOf,Bool.false_eq_true,if_false,if_true]<;>omega
theorem z3D{b:Bool}{s:ByteArray}(h:J5 b s=true):CV.agg [.lit (.bool b),X1 s]=J2 (zOf b s):=by
 obtain⟨h1,h2,h3⟩:=z04 h
 unfold J2
 rw[←h2,h3,←h1]
theorem z0k(z:Int)(b:Bool)(s:ByteArray)(hv:J5 b s=true)(hz:Sml z.natAbs)(hs:Sml (J9 s)):PCall P 184 [J2 z,.agg [.lit (.bool b),X1 s]] (J2 (Nat.gcd z.natAbs (zOf b s).natAbs:Nat)):=by
 rw[z3D hv]
 exact z2J z _ hz (by rw[(z04 hv).2.2];exact hs)
theorem z2b(b:Bool)(s:ByteArray)(hv:J5 b s=true)(hs:Sml (J9 s)):PCall P 184 [.agg [.lit (.bool false),X1 ⟨#[]⟩],.agg [.lit (.bool b),X1 s]] (J2 (Nat.gcd 0 (zOf b s).natAbs:Nat)):=
 z0k 0 b s hv (by unfold Sml;decide) hs
theorem z8v(b:Bool)(s:ByteArray)(hv:J5 b s=true):PCall P 183 [.agg [.lit (.bool b),X1 s]] (j5 (zOf b s).sign):=by
 rw[z3D hv]
 exact U3 _
def fB(b0 b1 b2 b3 b4:Bool):Nat→Bool
 |0=>b0
 |1=>b1
 |2=>b2
 |3=>b3
 |_=>b4
def fS(s0 s1 s2 s3 s4:ByteArray):Nat→ByteArray
 |0=>s0
 |1=>s1
 |2=>s2
 |3=>s3
 |_=>s4
abbrev r5(b0 b1 b2 b3 b4:Bool)(s0 s1 s2 s3 s4:ByteArray):CV:= .agg [.lit (.bool b0),X1 s0,.lit (.bool b1),X1 s1,.lit (.bool b2),X1 s2,.lit (.bool b3),X1 s3,.lit (.bool b4),X1 s4]
open Classical in
noncomputable def wdX(b0 b1 b2 b3 b4:Bool)(s0 s1 s2 s3 s4:ByteArray):Nat→Int:=
 if h: ∃W,PCall P 125 [r5 b0 b1 b2 b3 b4 s0 s1 s2 s3 s4] (wdV W false)then h.choose else fun _=>0
theorem z3M (b0 b1 b2 b3 b4 : Bool) (s0 s1 s2 s3 s4 : ByteArray) (h : ¬ ∀ i, i < 5 → z6A (fB b0 b1 b2 b3 b4) (fS s0 s1 s2 s3 s4) i) :
    PCall P 125 [r5 b0 b1 b2 b3 b4 s0 s1 s2 s3 s4] (wdV (wdX b0 b1 b2 b3 b4 s0 s1 s2 s3 s4) false):=by
 have h2: ∃W,PCall P 125 [r5 b0 b1 b2 b3 b4 s0 s1 s2 s3 s4] (wdV W false):=z8j h
 unfold wdX
 rw[dif_pos h2]
 exact h2.choose_spec
theorem zcG (b0 b1 b2 b3 b4 : Bool) (s0 s1 s2 s3 s4 : ByteArray) (h : ∀ i, i < 5 → z6A (fB b0 b1 b2 b3 b4) (fS s0 s1 s2 s3 s4) i) :
    PCall P 125 [r5 b0 b1 b2 b3 b4 s0 s1 s2 s3 s4] (wdV (z4o (fB b0 b1 b2 b3 b4) (fS s0 s1 s2 s3 s4)) true):=zav h
theorem ztn(a b c d e:Int)(h:M5 a b c d e):PCall P 192 [.agg [j5 a,j5 b,j5 c,j5 d,j5 e]] (j5 (X3 a b c d e:Nat)):=by
 have:=z7t (f5 a b c d e) h.f5
 rw[zcW]at this
 exact this
end Go.Fw
