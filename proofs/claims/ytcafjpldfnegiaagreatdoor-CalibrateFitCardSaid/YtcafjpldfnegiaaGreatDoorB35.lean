/- A part of the proof that the law returns true for every input: an executor for the model's code, and what functions of the program compute. -/
import Derived.Test.YtcafjpldfnegiaaGreatDoorB11
import Derived.Test.YtcafjpldfnegiaaGreatDoorB15
import Derived.Test.YtcafjpldfnegiaaGreatDoorB34
import Derived.KernelRfl
open Go IntKind
namespace Go.Fw
set_option maxRecDepth 100000
theorem zoA(a b:Int)(h1:(decide (a.natAbs<72057594037927936))=true)(h2:(decide (b.natAbs<72057594037927936))=true)(s33_0:(-9223372036854775808:Int)≤i64.wrap ((if a.natAbs<72057594037927936 then a else(0:Int))+if b.natAbs<72057594037927936 then b else(0:Int))∧i64.wrap ((if a.natAbs<72057594037927936 then a else(0:Int))+if b.natAbs<72057594037927936 then b else(0:Int))≤9223372036854775807):PCall P 127 [J7 a,J7 b] (.agg [.lit (.bool (decide (i64.wrap ((if a.natAbs<72057594037927936 then a else(0:Int))+if b.natAbs<72057594037927936 then b else(0:Int))<0))),.lit (.string (bytesOf (i64.wrap ((if a.natAbs<72057594037927936 then a else(0:Int))+if b.natAbs<72057594037927936 then b else(0:Int))).natAbs))]):=
 j3 (.r 4 (J4 (a)) (.r 8 (J4 (b)) (.r 13 (z0r (a)) (.b 20 h1 (.r 22 (z0r (b)) (.b 29 h2 (.r 33 (Y9 (i64.wrap ((if a.natAbs<72057594037927936 then a else(0:Int))+if b.natAbs<72057594037927936 then b else(0:Int))) s33_0) (.c (lq 2 2) .nil)))))))) (by kernel_rfl)
theorem zmO(a b:Int)(h1:(decide (a.natAbs<72057594037927936))=true)(h2:(decide (b.natAbs<72057594037927936))=false)(h3:(decide (a<0)==decide (b<0))=true)(s32_0:Sml a.natAbs)(s35_0:Sml b.natAbs)(s49_0:(dig 16777216 a.natAbs).length<2^40)(s49_1:(dig 16777216 b.natAbs).length<2^40)(s50_0:(dig 16777216 (a.natAbs+b.natAbs)).length<2^40)(o10:List.take ((dig 16777216 a.natAbs).length*1) (List.drop 0 (own (j4 (dig 16777216 a.natAbs))))=List.map MV.cv (j4 (dig 16777216 a.natAbs)))(o11:List.take ((dig 16777216 b.natAbs).length*1) (List.drop 0 (own (j4 (dig 16777216 b.natAbs))))=List.map MV.cv (j4 (dig 16777216 b.natAbs))):PCall P 127 [J7 a,J7 b] (.agg [.lit (.bool (decide ((if decide (a<0)=true then-(↑(a.natAbs+b.natAbs):Int)else(↑(a.natAbs+b.natAbs):Int))<0))),.lit (.string (bytesOf (if decide (a<0)=true then-(↑(a.natAbs+b.natAbs):Int)else(↑(a.natAbs+b.natAbs):Int)).natAbs))]):=
 j3 (.r 4 (J4 (a)) (.r 8 (J4 (b)) (.r 13 (z0r (a)) (.b 20 h1 (.r 22 (z0r (b)) (.b 29 h2 (.f 32 (Q0 (a.natAbs) s32_0) (.f 35 (Q0 (b.natAbs) s35_0) (.b 44 h3 (.rs 49 [j4 (dig 16777216 a.natAbs),j4 (dig 16777216 b.natAbs)] (zdc (a.natAbs) (b.natAbs) s49_0 s49_1) (.c o10 (.c o11 (.r 50 (z49 (decide (a<0)) (a.natAbs+b.natAbs) s50_0) (.c (lq 2 2) .nil)))))))))))))) (by kernel_rfl)
theorem zpA(a b:Int)(h1:(decide (a.natAbs<72057594037927936))=true)(h2:(decide (b.natAbs<72057594037927936))=false)(h3:(decide (a<0)==decide (b<0))=false)(h4:(decide (z1v a.natAbs b.natAbs≥0))=false)(s32_0:Sml a.natAbs)(s35_0:Sml b.natAbs)(s47_0:(dig 16777216 a.natAbs).length<2^40)(s47_1 s55_0:(dig 16777216 b.natAbs).length<2^40)(s55_1:a.natAbs≤b.natAbs)(s56_0:(dig 16777216 (b.natAbs-a.natAbs)).length<2^40)(o10:List.take ((dig 16777216 a.natAbs).length*1) (List.drop 0 (own (j4 (dig 16777216 a.natAbs))))=List.map MV.cv (j4 (dig 16777216 a.natAbs)))(o11 o14:List.take ((dig 16777216 b.natAbs).length*1) (List.drop 0 (own (j4 (dig 16777216 b.natAbs))))=List.map MV.cv (j4 (dig 16777216 b.natAbs)))(o15:List.take ((dig 16777216 a.natAbs).length*1) (List.drop 0 (own (j4 (dig 16777216 a.natAbs))))=List.map MV.cv (j4 (dig 16777216 a.natAbs))):PCall P 127 [J7 a,J7 b] (.agg [.lit (.bool (decide ((if decide (b<0)=true then-(↑(b.natAbs-a.natAbs):Int)else(↑(b.natAbs-a.natAbs):Int))<0))),.lit (.string (bytesOf (if decide (b<0)=true then-(↑(b.natAbs-a.natAbs):Int)else(↑(b.natAbs-a.natAbs):Int)).natAbs))]):=
 j3 (.c (J4 (a)) (.c (J4 (b)) (.c (z0r (a)) (.o 4 (.r (.lit (.bool true))) (.o 8 (.r (.lit (.bool true))) (.o 13 (.r (.tup [.lit (.int .i64 (if a.natAbs<72057594037927936 then a else(0:Int))),.lit (.bool (decide (a.natAbs<72057594037927936)))])) (.b 20 h1 (.c (z0r (b)) (.o 22 (.r (.tup [.lit (.int .i64 (if b.natAbs<72057594037927936 then b else(0:Int))),.lit (.bool (decide (b.natAbs<72057594037927936)))])) (.b 29 h2 (.c (Q0 (a.natAbs) s32_0) (.c (Q0 (b.natAbs) s35_0) (.o 32 (.f (.sl 0 0 (dig 16777216 a.natAbs).length 1) (j4 (dig B24 a.natAbs))) (.o 35 (.f (.sl 0 0 (dig 16777216 b.natAbs).length 1) (j4 (dig B24 b.natAbs))) (.b 44 h3 (.c (z5x (a.natAbs) (b.natAbs) s47_0 s47_1) (.c o10 (.c o11 (.o 47 (.k (.lit (.int .i64 (z1v a.natAbs b.natAbs))) [j4 (dig 16777216 a.natAbs),j4 (dig 16777216 b.natAbs)]) (.b 50 h4 (.c (z7B (b.natAbs) (a.natAbs) s55_0 s55_1) (.c o14 (.c o15 (.c (z49 (decide (b<0)) (b.natAbs-a.natAbs) s56_0) (.c (lq 2 2) (.o 55 (.r (.lst (dig 16777216 (b.natAbs-a.natAbs)).length (j4 (dig 16777216 (b.natAbs-a.natAbs)))) [j4 (dig 16777216 b.natAbs),j4 (dig 16777216 a.natAbs)]) (.o 56 (.r (.agg [.lit (.bool (decide ((if decide (b<0)=true then-(↑(b.natAbs-a.natAbs):Int)else(↑(b.natAbs-a.natAbs):Int))<0))),.lit (.string (bytesOf (if decide (b<0)=true then-(↑(b.natAbs-a.natAbs):Int)else(↑(b.natAbs-a.natAbs):Int)).natAbs))])) .nil))))))))))))))))))))))))))) (by kernel_rfl)
theorem zo0(a b:Int)(h1:(decide (a.natAbs<72057594037927936))=false)(h2:(decide (a<0)==decide (b<0))=true)(s23_0:Sml a.natAbs)(s26_0:Sml b.natAbs)(s40_0:(dig 16777216 a.natAbs).length<2^40)(s40_1:(dig 16777216 b.natAbs).length<2^40)(s41_0:(dig 16777216 (a.natAbs+b.natAbs)).length<2^40)(o8:List.take ((dig 16777216 a.natAbs).length*1) (List.drop 0 (own (j4 (dig 16777216 a.natAbs))))=List.map MV.cv (j4 (dig 16777216 a.natAbs)))(o9:List.take ((dig 16777216 b.natAbs).length*1) (List.drop 0 (own (j4 (dig 16777216 b.natAbs))))=List.map MV.cv (j4 (dig 16777216 b.natAbs))):PCall P 127 [J7 a,J7 b] (.agg [.lit (.bool (decide ((if decide (a<0)=true then-(↑(a.natAbs+b.natAbs):Int)else(↑(a.natAbs+b.natAbs):Int))<0))),.lit (.string (bytesOf (if decide (a<0)=true then-(↑(a.natAbs+b.natAbs):Int)else(↑(a.natAbs+b.natAbs):Int)).natAbs))]):=
 j3 (.r 4 (J4 (a)) (.r 8 (J4 (b)) (.r 13 (z0r (a)) (.b 20 h1 (.f 23 (Q0 (a.natAbs) s23_0) (.f 26 (Q0 (b.natAbs) s26_0) (.b 35 h2 (.rs 40 [j4 (dig 16777216 a.natAbs),j4 (dig 16777216 b.natAbs)] (zdc (a.natAbs) (b.natAbs) s40_0 s40_1) (.c o8 (.c o9 (.r 41 (z49 (decide (a<0)) (a.natAbs+b.natAbs) s41_0) (.c (lq 2 2) .nil)))))))))))) (by kernel_rfl)
theorem znf(a b:Int)(h1:(decide (a.natAbs<72057594037927936))=false)(h2:(decide (a<0)==decide (b<0))=false)(h3:(decide (z1v a.natAbs b.natAbs≥0))=true)(s23_0:Sml a.natAbs)(s26_0:Sml b.natAbs)(s38_0:(dig 16777216 a.natAbs).length<2^40)(s38_1:(dig 16777216 b.natAbs).length<2^40)(s46_0:(dig 16777216 a.natAbs).length<2^40)(s46_1:b.natAbs≤a.natAbs)(s47_0:(dig 16777216 (a.natAbs-b.natAbs)).length<2^40)(o8:List.take ((dig 16777216 a.natAbs).length*1) (List.drop 0 (own (j4 (dig 16777216 a.natAbs))))=List.map MV.cv (j4 (dig 16777216 a.natAbs)))(o9:List.take ((dig 16777216 b.natAbs).length*1) (List.drop 0 (own (j4 (dig 16777216 b.natAbs))))=List.map MV.cv (j4 (dig 16777216 b.natAbs)))(o12:List.take ((dig 16777216 a.natAbs).length*1) (List.drop 0 (own (j4 (dig 16777216 a.natAbs))))=List.map MV.cv (j4 (dig 16777216 a.natAbs)))(o13:List.take ((dig 16777216 b.natAbs).length*1) (List.drop 0 (own (j4 (dig 16777216 b.natAbs))))=List.map MV.cv (j4 (dig 16777216 b.natAbs))):PCall P 127 [J7 a,J7 b] (.agg [.lit (.bool (decide ((if decide (a<0)=true then-(↑(a.natAbs-b.natAbs):Int)else(↑(a.natAbs-b.natAbs):Int))<0))),.lit (.string (bytesOf (if decide (a<0)=true then-(↑(a.natAbs-b.natAbs):Int)else(↑(a.natAbs-b.natAbs):Int)).natAbs))]):=
 j3 (.c (J4 (a)) (.c (J4 (b)) (.c (z0r (a)) (.o 4 (.r (.lit (.bool true))) (.o 8 (.r (.lit (.bool true))) (.o 13 (.r (.tup [.lit (.int .i64 (if a.natAbs<72057594037927936 then a else(0:Int))),.lit (.bool (decide (a.natAbs<72057594037927936)))])) (.b 20 h1 (.c (Q0 (a.natAbs) s23_0) (.c (Q0 (b.natAbs) s26_0) (.o 23 (.f (.sl 0 0 (dig 16777216 a.natAbs).length 1) (j4 (dig B24 a.natAbs))) (.o 26 (.f (.sl 0 0 (dig 16777216 b.natAbs).length 1) (j4 (dig B24 b.natAbs))) (.b 35 h2 (.c (z5x (a.natAbs) (b.natAbs) s38_0 s38_1) (.c o8 (.c o9 (.o 38 (.k (.lit (.int .i64 (z1v a.natAbs b.natAbs))) [j4 (dig 16777216 a.natAbs),j4 (dig 16777216 b.natAbs)]) (.b 41 h3 (.c (z7B (a.natAbs) (b.natAbs) s46_0 s46_1) (.c o12 (.c o13 (.c (z49 (decide (a<0)) (a.natAbs-b.natAbs) s47_0) (.c (lq 2 2) (.o 46 (.r (.lst (dig 16777216 (a.natAbs-b.natAbs)).length (j4 (dig 16777216 (a.natAbs-b.natAbs)))) [j4 (dig 16777216 a.natAbs),j4 (dig 16777216 b.natAbs)]) (.o 47 (.r (.agg [.lit (.bool (decide ((if decide (a<0)=true then-(↑(a.natAbs-b.natAbs):Int)else(↑(a.natAbs-b.natAbs):Int))<0))),.lit (.string (bytesOf (if decide (a<0)=true then-(↑(a.natAbs-b.natAbs):Int)else(↑(a.natAbs-b.natAbs):Int)).natAbs))])) .nil)))))))))))))))))))))))) (by kernel_rfl)
theorem zqh(a b:Int)(h1:(decide (a.natAbs<72057594037927936))=false)(h2:(decide (a<0)==decide (b<0))=false)(h3:(decide (z1v a.natAbs b.natAbs≥0))=false)(s23_0:Sml a.natAbs)(s26_0:Sml b.natAbs)(s38_0:(dig 16777216 a.natAbs).length<2^40)(s38_1 s46_0:(dig 16777216 b.natAbs).length<2^40)(s46_1:a.natAbs≤b.natAbs)(s47_0:(dig 16777216 (b.natAbs-a.natAbs)).length<2^40)(o8:List.take ((dig 16777216 a.natAbs).length*1) (List.drop 0 (own (j4 (dig 16777216 a.natAbs))))=List.map MV.cv (j4 (dig 16777216 a.natAbs)))(o9 o12:List.take ((dig 16777216 b.natAbs).length*1) (List.drop 0 (own (j4 (dig 16777216 b.natAbs))))=List.map MV.cv (j4 (dig 16777216 b.natAbs)))(o13:List.take ((dig 16777216 a.natAbs).length*1) (List.drop 0 (own (j4 (dig 16777216 a.natAbs))))=List.map MV.cv (j4 (dig 16777216 a.natAbs))):PCall P 127 [J7 a,J7 b] (.agg [.lit (.bool (decide ((if decide (b<0)=true then-(↑(b.natAbs-a.natAbs):Int)else(↑(b.natAbs-a.natAbs):Int))<0))),.lit (.string (bytesOf (if decide (b<0)=true then-(↑(b.natAbs-a.natAbs):Int)else(↑(b.natAbs-a.natAbs):Int)).natAbs))]):=
 j3 (.c (J4 (a)) (.c (J4 (b)) (.c (z0r (a)) (.o 4 (.r (.lit (.bool true))) (.o 8 (.r (.lit (.bool true))) (.o 13 (.r (.tup [.lit (.int .i64 (if a.natAbs<72057594037927936 then a else(0:Int))),.lit (.bool (decide (a.natAbs<72057594037927936)))])) (.b 20 h1 (.c (Q0 (a.natAbs) s23_0) (.c (Q0 (b.natAbs) s26_0) (.o 23 (.f (.sl 0 0 (dig 16777216 a.natAbs).length 1) (j4 (dig B24 a.natAbs))) (.o 26 (.f (.sl 0 0 (dig 16777216 b.natAbs).length 1) (j4 (dig B24 b.natAbs))) (.b 35 h2 (.c (z5x (a.natAbs) (b.natAbs) s38_0 s38_1) (.c o8 (.c o9 (.o 38 (.k (.lit (.int .i64 (z1v a.natAbs b.natAbs))) [j4 (dig 16777216 a.natAbs),j4 (dig 16777216 b.natAbs)]) (.b 41 h3 (.c (z7B (b.natAbs) (a.natAbs) s46_0 s46_1) (.c o12 (.c o13 (.c (z49 (decide (b<0)) (b.natAbs-a.natAbs) s47_0) (.c (lq 2 2) (.o 46 (.r (.lst (dig 16777216 (b.natAbs-a.natAbs)).length (j4 (dig 16777216 (b.natAbs-a.natAbs)))) [j4 (dig 16777216 b.natAbs),j4 (dig 16777216 a.natAbs)]) (.o 47 (.r (.agg [.lit (.bool (decide ((if decide (b<0)=true then-(↑(b.natAbs-a.natAbs):Int)else(↑(b.natAbs-a.natAbs):Int))<0))),.lit (.string (bytesOf (if decide (b<0)=true then-(↑(b.natAbs-a.natAbs):Int)else(↑(b.natAbs-a.natAbs):Int)).natAbs))])) .nil)))))))))))))))))))))))) (by kernel_rfl)
theorem zpu(a b:Int)(h1:(decide (i64.wrap ((↑(bytesOf a.natAbs).size:Int)+(↑(bytesOf b.natAbs).size:Int))≤7))=true)(s22_0:a.natAbs<256^7)(s29_0:b.natAbs<256^7)(s38_0:(-9223372036854775808:Int)≤i64.wrap (a*b)∧i64.wrap (a*b)≤9223372036854775807):PCall P 128 [J7 a,J7 b] (.agg [.lit (.bool (decide (i64.wrap (a*b)<0))),.lit (.string (bytesOf (i64.wrap (a*b)).natAbs))]):=
 j3 (.r 4 (J4 (a)) (.r 8 (J4 (b)) (.b 20 h1 (.r 22 (z0m (a) s22_0) (.r 29 (z0m (b) s29_0) (.r 38 (Y9 (i64.wrap (a*b)) s38_0) (.c (lq 2 2) .nil))))))) (by kernel_rfl)
theorem zpc(a b:Int)(h1:(decide (i64.wrap ((↑(bytesOf a.natAbs).size:Int)+(↑(bytesOf b.natAbs).size:Int))≤7))=false)(s28_0:Sml a.natAbs)(s31_0:Sml b.natAbs)(s32_0:(dig 16777216 a.natAbs).length<2^40)(s32_1:(dig 16777216 b.natAbs).length<2^40)(s33_0:(dig 16777216 (a.natAbs*b.natAbs)).length<2^40)(o6:List.take ((dig 16777216 a.natAbs).length*1) (List.drop 0 (own (j4 (dig 16777216 a.natAbs))))=List.map MV.cv (j4 (dig 16777216 a.natAbs)))(o7:List.take ((dig 16777216 b.natAbs).length*1) (List.drop 0 (own (j4 (dig 16777216 b.natAbs))))=List.map MV.cv (j4 (dig 16777216 b.natAbs))):PCall P 128 [J7 a,J7 b] (.agg [.lit (.bool (decide ((if(!decide (a<0)==decide (b<0))=true then-(↑(a.natAbs*b.natAbs):Int)else(↑(a.natAbs*b.natAbs):Int))<0))),.lit (.string (bytesOf (if(!decide (a<0)==decide (b<0))=true then-(↑(a.natAbs*b.natAbs):Int)else(↑(a.natAbs*b.natAbs):Int)).natAbs))]):=
 j3 (.r 4 (J4 (a)) (.r 8 (J4 (b)) (.b 20 h1 (.f 28 (Q0 (a.natAbs) s28_0) (.f 31 (Q0 (b.natAbs) s31_0) (.rs 32 [j4 (dig 16777216 a.natAbs),j4 (dig 16777216 b.natAbs)] (zfc (a.natAbs) (b.natAbs) s32_0 s32_1) (.c o6 (.c o7 (.r 33 (z49 (!decide (a<0)==decide (b<0)) (a.natAbs*b.natAbs) s33_0) (.c (lq 2 2) .nil)))))))))) (by kernel_rfl)
theorem zps(a b:Int)(h1:(a.sign != b.sign)=true)(h2:(decide (a.sign<b.sign))=true):PCall P 213 [J7 a,J7 b] (.lit (.int .i64 (-1:Int))):=
 j3 (.r 4 (J4 (a)) (.r 8 (J4 (b)) (.r 13 (Z7 (a)) (.r 15 (Z7 (b)) (.b 21 h1 (.b 25 h2 .nil)))))) (by kernel_rfl)
theorem zmx(a b:Int)(h1:(a.sign != b.sign)=true)(h2:(decide (a.sign<b.sign))=false):PCall P 213 [J7 a,J7 b] (.lit (.int .i64 1)):=
 j3 (.r 4 (J4 (a)) (.r 8 (J4 (b)) (.r 13 (Z7 (a)) (.r 15 (Z7 (b)) (.b 21 h1 (.b 25 h2 .nil)))))) (by kernel_rfl)
theorem zoQ(a b:Int)(h1:(a.sign != b.sign)=false)(s25_0:Sml a.natAbs)(s28_0:Sml b.natAbs)(s29_0:(dig 16777216 a.natAbs).length<2^40)(s29_1:(dig 16777216 b.natAbs).length<2^40)(o8:List.take ((dig 16777216 a.natAbs).length*1) (List.drop 0 (own (j4 (dig 16777216 a.natAbs))))=List.map MV.cv (j4 (dig 16777216 a.natAbs)))(o9:List.take ((dig 16777216 b.natAbs).length*1) (List.drop 0 (own (j4 (dig 16777216 b.natAbs))))=List.map MV.cv (j4 (dig 16777216 b.natAbs))):PCall P 213 [J7 a,J7 b] (.lit (.int .i64 (i64.wrap (a.sign*z1v a.natAbs b.natAbs)))):=
 j3 (.c (J4 (a)) (.c (J4 (b)) (.c (Z7 (a)) (.c (Z7 (b)) (.o 4 (.r (.lit (.bool true))) (.o 8 (.r (.lit (.bool true))) (.o 13 (.r (.lit (.int .i64 a.sign))) (.o 15 (.r (.lit (.int .i64 b.sign))) (.b 21 h1 (.c (Q0 (a.natAbs) s25_0) (.c (Q0 (b.natAbs) s28_0) (.c (z5x (a.natAbs) (b.natAbs) s29_0 s29_1) (.c o8 (.c o9 (.o 25 (.f (.sl 0 0 (dig 16777216 a.natAbs).length 1) (j4 (dig B24 a.natAbs))) (.o 28 (.f (.sl 0 0 (dig 16777216 b.natAbs).length 1) (j4 (dig B24 b.natAbs))) (.o 29 (.k (.lit (.int .i64 (z1v a.natAbs b.natAbs))) [j4 (dig 16777216 a.natAbs),j4 (dig 16777216 b.natAbs)]) .nil))))))))))))))))) (by kernel_rfl)
end Go.Fw
open Go IntKind
namespace Go.Fw
set_option maxRecDepth 100000
theorem zjr(a b:Int)(g0:((bytesOf b.natAbs).toList==[])=false)(g3:decide ((↑(dig B24 (a.natAbs%b.natAbs)).length:Int)>0)=false)(h1:(!decide (a<0)==decide (b<0))=true)(s19_0:256^7≤a.natAbs)(s35_0:Sml a.natAbs)(s38_0:Sml b.natAbs)(s39_0:b.natAbs≠0)(s39_1:(dig 16777216 a.natAbs).length<2^36)(s39_2:(dig 16777216 b.natAbs).length<2^36)(s62_0:(dig 16777216 (a.natAbs/b.natAbs)).length<2^40)(s66_0:(dig 16777216 (a.natAbs%b.natAbs)).length<2^40)(o7:List.take ((dig 16777216 a.natAbs).length*1) (List.drop 0 (own (j4 (dig 16777216 a.natAbs))))=List.map MV.cv (j4 (dig 16777216 a.natAbs)))(o8:List.take ((dig 16777216 b.natAbs).length*1) (List.drop 0 (own (j4 (dig 16777216 b.natAbs))))=List.map MV.cv (j4 (dig 16777216 b.natAbs))):PCall P 233 [J7 a,J7 b] (.tup [.agg [.lit (.bool (decide ((if(!decide (a<0)==decide (b<0))=true then-(↑(a.natAbs/b.natAbs):Int)else(↑(a.natAbs/b.natAbs):Int))<0))),.lit (.string (bytesOf (if(!decide (a<0)==decide (b<0))=true then-(↑(a.natAbs/b.natAbs):Int)else(↑(a.natAbs/b.natAbs):Int)).natAbs))],.agg [.lit (.bool (decide ((if decide (b<0)=true then-(↑(a.natAbs%b.natAbs):Int)else(↑(a.natAbs%b.natAbs):Int))<0))),.lit (.string (bytesOf (if decide (b<0)=true then-(↑(a.natAbs%b.natAbs):Int)else(↑(a.natAbs%b.natAbs):Int)).natAbs))],.lit (.int .i64 0)]):=
 j3 (.r 6 (J4 (a)) (.r 10 (J4 (b)) (.b 17 g0 (.r 19 (z4k (a) s19_0) (.f 35 (Q0 (a.natAbs) s35_0) (.f 38 (Q0 (b.natAbs) s38_0) (.rs 39 [j4 (dig 16777216 a.natAbs),j4 (dig 16777216 b.natAbs)] (z3Y (a.natAbs) (b.natAbs) s39_0 s39_1 s39_2) (.c o7 (.c o8 (.b 50 h1 (.b 55 g3 (.r 62 (z49 (!decide (a<0)==decide (b<0)) (a.natAbs/b.natAbs) s62_0) (.r 66 (z49 (decide (b<0)) (a.natAbs%b.natAbs) s66_0) (.c (lq 2 2) (.c (lq 2 2) .nil))))))))))))))) (by kernel_rfl)
theorem zk5(a b:Int)(g0:((bytesOf b.natAbs).toList==[])=false)(_g3:decide ((↑(dig B24 (a.natAbs%b.natAbs)).length:Int)>0)=false)(h1:(!decide (a<0)==decide (b<0))=false)(s19_0:256^7≤a.natAbs)(s35_0:Sml a.natAbs)(s38_0:Sml b.natAbs)(s39_0:b.natAbs≠0)(s39_1:(dig 16777216 a.natAbs).length<2^36)(s39_2:(dig 16777216 b.natAbs).length<2^36)(s62_0:(dig 16777216 (a.natAbs/b.natAbs)).length<2^40)(s66_0:(dig 16777216 (a.natAbs%b.natAbs)).length<2^40)(o7:List.take ((dig 16777216 a.natAbs).length*1) (List.drop 0 (own (j4 (dig 16777216 a.natAbs))))=List.map MV.cv (j4 (dig 16777216 a.natAbs)))(o8:List.take ((dig 16777216 b.natAbs).length*1) (List.drop 0 (own (j4 (dig 16777216 b.natAbs))))=List.map MV.cv (j4 (dig 16777216 b.natAbs))):PCall P 233 [J7 a,J7 b] (.tup [.agg [.lit (.bool (decide ((if(!decide (a<0)==decide (b<0))=true then-(↑(a.natAbs/b.natAbs):Int)else(↑(a.natAbs/b.natAbs):Int))<0))),.lit (.string (bytesOf (if(!decide (a<0)==decide (b<0))=true then-(↑(a.natAbs/b.natAbs):Int)else(↑(a.natAbs/b.natAbs):Int)).natAbs))],.agg [.lit (.bool (decide ((if decide (b<0)=true then-(↑(a.natAbs%b.natAbs):Int)else(↑(a.natAbs%b.natAbs):Int))<0))),.lit (.string (bytesOf (if decide (b<0)=true then-(↑(a.natAbs%b.natAbs):Int)else(↑(a.natAbs%b.natAbs):Int)).natAbs))],.lit (.int .i64 0)]):=
 j3 (.r 6 (J4 (a)) (.r 10 (J4 (b)) (.b 17 g0 (.r 19 (z4k (a) s19_0) (.f 35 (Q0 (a.natAbs) s35_0) (.f 38 (Q0 (b.natAbs) s38_0) (.rs 39 [j4 (dig 16777216 a.natAbs),j4 (dig 16777216 b.natAbs)] (z3Y (a.natAbs) (b.natAbs) s39_0 s39_1 s39_2) (.c o7 (.c o8 (.b 50 h1 (.r 62 (z49 (!decide (a<0)==decide (b<0)) (a.natAbs/b.natAbs) s62_0) (.r 66 (z49 (decide (b<0)) (a.natAbs%b.natAbs) s66_0) (.c (lq 2 2) (.c (lq 2 2) .nil)))))))))))))) (by kernel_rfl)
theorem zlC(a b:Int)(g0:((bytesOf b.natAbs).toList==[])=false)(g2:decide ((↑(bytesOf b.natAbs).size:Int)≤7)=false)(g3:decide ((↑(dig B24 (a.natAbs%b.natAbs)).length:Int)>0)=false)(h1:(!decide (a<0)==decide (b<0))=true)(s19_0:a.natAbs<256^7)(s35_0:Sml a.natAbs)(s38_0:Sml b.natAbs)(s39_0:b.natAbs≠0)(s39_1:(dig 16777216 a.natAbs).length<2^36)(s39_2:(dig 16777216 b.natAbs).length<2^36)(s62_0:(dig 16777216 (a.natAbs/b.natAbs)).length<2^40)(s66_0:(dig 16777216 (a.natAbs%b.natAbs)).length<2^40)(o8:List.take ((dig 16777216 a.natAbs).length*1) (List.drop 0 (own (j4 (dig 16777216 a.natAbs))))=List.map MV.cv (j4 (dig 16777216 a.natAbs)))(o9:List.take ((dig 16777216 b.natAbs).length*1) (List.drop 0 (own (j4 (dig 16777216 b.natAbs))))=List.map MV.cv (j4 (dig 16777216 b.natAbs))):PCall P 233 [J7 a,J7 b] (.tup [.agg [.lit (.bool (decide ((if(!decide (a<0)==decide (b<0))=true then-(↑(a.natAbs/b.natAbs):Int)else(↑(a.natAbs/b.natAbs):Int))<0))),.lit (.string (bytesOf (if(!decide (a<0)==decide (b<0))=true then-(↑(a.natAbs/b.natAbs):Int)else(↑(a.natAbs/b.natAbs):Int)).natAbs))],.agg [.lit (.bool (decide ((if decide (b<0)=true then-(↑(a.natAbs%b.natAbs):Int)else(↑(a.natAbs%b.natAbs):Int))<0))),.lit (.string (bytesOf (if decide (b<0)=true then-(↑(a.natAbs%b.natAbs):Int)else(↑(a.natAbs%b.natAbs):Int)).natAbs))],.lit (.int .i64 0)]):=
 j3 (.r 6 (J4 (a)) (.r 10 (J4 (b)) (.b 17 g0 (.r 19 (z0m (a) s19_0) (.b 32 g2 (.f 35 (Q0 (a.natAbs) s35_0) (.f 38 (Q0 (b.natAbs) s38_0) (.rs 39 [j4 (dig 16777216 a.natAbs),j4 (dig 16777216 b.natAbs)] (z3Y (a.natAbs) (b.natAbs) s39_0 s39_1 s39_2) (.c o8 (.c o9 (.b 50 h1 (.b 55 g3 (.r 62 (z49 (!decide (a<0)==decide (b<0)) (a.natAbs/b.natAbs) s62_0) (.r 66 (z49 (decide (b<0)) (a.natAbs%b.natAbs) s66_0) (.c (lq 2 2) (.c (lq 2 2) .nil)))))))))))))))) (by kernel_rfl)
theorem zjv(a b:Int)(g0:((bytesOf b.natAbs).toList==[])=false)(g2:decide ((↑(bytesOf b.natAbs).size:Int)≤7)=false)(_g3:decide ((↑(dig B24 (a.natAbs%b.natAbs)).length:Int)>0)=false)(h1:(!decide (a<0)==decide (b<0))=false)(s19_0:a.natAbs<256^7)(s35_0:Sml a.natAbs)(s38_0:Sml b.natAbs)(s39_0:b.natAbs≠0)(s39_1:(dig 16777216 a.natAbs).length<2^36)(s39_2:(dig 16777216 b.natAbs).length<2^36)(s62_0:(dig 16777216 (a.natAbs/b.natAbs)).length<2^40)(s66_0:(dig 16777216 (a.natAbs%b.natAbs)).length<2^40)(o8:List.take ((dig 16777216 a.natAbs).length*1) (List.drop 0 (own (j4 (dig 16777216 a.natAbs))))=List.map MV.cv (j4 (dig 16777216 a.natAbs)))(o9:List.take ((dig 16777216 b.natAbs).length*1) (List.drop 0 (own (j4 (dig 16777216 b.natAbs))))=List.map MV.cv (j4 (dig 16777216 b.natAbs))):PCall P 233 [J7 a,J7 b] (.tup [.agg [.lit (.bool (decide ((if(!decide (a<0)==decide (b<0))=true then-(↑(a.natAbs/b.natAbs):Int)else(↑(a.natAbs/b.natAbs):Int))<0))),.lit (.string (bytesOf (if(!decide (a<0)==decide (b<0))=true then-(↑(a.natAbs/b.natAbs):Int)else(↑(a.natAbs/b.natAbs):Int)).natAbs))],.agg [.lit (.bool (decide ((if decide (b<0)=true then-(↑(a.natAbs%b.natAbs):Int)else(↑(a.natAbs%b.natAbs):Int))<0))),.lit (.string (bytesOf (if decide (b<0)=true then-(↑(a.natAbs%b.natAbs):Int)else(↑(a.natAbs%b.natAbs):Int)).natAbs))],.lit (.int .i64 0)]):=
 j3 (.r 6 (J4 (a)) (.r 10 (J4 (b)) (.b 17 g0 (.r 19 (z0m (a) s19_0) (.b 32 g2 (.f 35 (Q0 (a.natAbs) s35_0) (.f 38 (Q0 (b.natAbs) s38_0) (.rs 39 [j4 (dig 16777216 a.natAbs),j4 (dig 16777216 b.natAbs)] (z3Y (a.natAbs) (b.natAbs) s39_0 s39_1 s39_2) (.c o8 (.c o9 (.b 50 h1 (.r 62 (z49 (!decide (a<0)==decide (b<0)) (a.natAbs/b.natAbs) s62_0) (.r 66 (z49 (decide (b<0)) (a.natAbs%b.natAbs) s66_0) (.c (lq 2 2) (.c (lq 2 2) .nil))))))))))))))) (by kernel_rfl)
end Go.Fw
open Go
namespace Go.Fw
set_option maxRecDepth 100000
theorem zen{n:Nat}(h:Sml n):(dig 16777216 n).length<2^40:=by have:(dig 16777216 n).length<2^31:=h.dig24;omega
theorem zhK{n:Nat}(h:Sml n):(dig 16777216 n).length<2^36:=by have:(dig 16777216 n).length<2^31:=h.dig24;omega
theorem z9Y{a b:Nat}:z1v a b≥0↔b≤a:=by
 have:=z7r (a:=a) (b:=b)
 omega
theorem zau{a b:Int}(h:(decide (a<0)==decide (b<0))=true):(if decide (a<0)=true then-((a.natAbs+b.natAbs:Nat):Int)else((a.natAbs+b.natAbs:Nat):Int))=a+b:=by
 simp only[decide_eq_true_eq]
 rw[beq_iff_eq,decide_eq_decide]at h
 split<;>omega
theorem za9{a b:Int}(h:(decide (a<0)==decide (b<0))=false)(hle:b.natAbs≤a.natAbs):(if decide (a<0)=true then-((a.natAbs-b.natAbs:Nat):Int)else((a.natAbs-b.natAbs:Nat):Int))=a+b:=by
 simp only[decide_eq_true_eq]
 rw[beq_eq_false_iff_ne,Ne,decide_eq_decide]at h
 split<;>omega
theorem z8q{a b:Int}(h:(decide (a<0)==decide (b<0))=false)(hle:a.natAbs≤b.natAbs):(if decide (b<0)=true then-((b.natAbs-a.natAbs:Nat):Int)else((b.natAbs-a.natAbs:Nat):Int))=a+b:=by
 rw[za9 (a:=b) (b:=a) (by rw[beq_eq_false_iff_ne]at h ⊢;exact fun e=>h e.symm) hle,Int.add_comm]
theorem z0z(a b:Int)(ha:Sml a.natAbs)(hb:Sml b.natAbs)(hs:Sml (a.natAbs+b.natAbs)):PCall P 127 [J7 a,J7 b] (J7 (a+b)):=by
 have la:=zen ha
 have lb:=zen hb
 have ls:=zen hs
 have ld:=zen (hs.mono (show a.natAbs-b.natAbs≤a.natAbs+b.natAbs by omega))
 have ld':=zen (hs.mono (show b.natAbs-a.natAbs≤a.natAbs+b.natAbs by omega))
 have oa:=U1 (dig 16777216 a.natAbs)
 have ob:=U1 (dig 16777216 b.natAbs)
 by_cases h1:a.natAbs<72057594037927936
 · by_cases h2:b.natAbs<72057594037927936
   · have:=zoA a b (decide_eq_true h1) (decide_eq_true h2) (by rw[if_pos h1,if_pos h2,w64 (by omega)];omega)
     rw[if_pos h1,if_pos h2,w64 (by omega)]at this
     exact this
   · cases h3:(decide (a<0)==decide (b<0))
     · by_cases h4:b.natAbs≤a.natAbs
       · omega
       · have:=zpA a b (decide_eq_true h1) (decide_eq_false h2) h3 (decide_eq_false (fun h=>h4 (z9Y.1 h))) ha hb la lb lb (by omega) ld' oa ob ob oa
         rw[z8q h3 (by omega)]at this
         exact this
     · have:=zmO a b (decide_eq_true h1) (decide_eq_false h2) h3 ha hb la lb ls oa ob
       rw[zau h3]at this
       exact this
 · cases h3:(decide (a<0)==decide (b<0))
   · by_cases h4:b.natAbs≤a.natAbs
     · have:=znf a b (decide_eq_false h1) h3 (decide_eq_true (z9Y.2 h4)) ha hb la lb la h4 ld oa ob oa ob
       rw[za9 h3 h4]at this
       exact this
     · have:=zqh a b (decide_eq_false h1) h3 (decide_eq_false (fun h=>h4 (z9Y.1 h))) ha hb la lb lb (by omega) ld' oa ob ob oa
       rw[z8q h3 (by omega)]at this
       exact this
   · have:=zo0 a b (decide_eq_false h1) h3 ha hb la lb ls oa ob
     rw[zau h3]at this
     exact this
theorem sgn_mul{a b:Int}:(if(!(decide (a<0)==decide (b<0)))=true then-((a.natAbs*b.natAbs:Nat):Int)else((a.natAbs*b.natAbs:Nat):Int))=a*b:=by
 have e:(a*b).natAbs=a.natAbs*b.natAbs:=Int.natAbs_mul a b
 rw[←e]
 rcases Int.lt_or_le a 0 with ha|ha<;>rcases Int.lt_or_le b 0 with hb|hb
 · have hp:0<a*b:=Int.mul_pos_of_neg_of_neg ha hb
   generalize a*b=p at*
   rw[decide_eq_true ha,decide_eq_true hb,if_neg (by decide)];omega
 · have hp:a*b≤0:=Int.mul_nonpos_of_nonpos_of_nonneg (by omega) hb
   generalize a*b=p at*
   rw[decide_eq_true ha,decide_eq_false (by omega),if_pos (by decide)];omega
 · have hp:a*b≤0:=Int.mul_nonpos_of_nonneg_of_nonpos ha (by omega)
   generalize a*b=p at*
   rw[decide_eq_false (by omega),decide_eq_true hb,if_pos (by decide)];omega
 · have hp:0≤a*b:=Int.mul_nonneg ha hb
   generalize a*b=p at*
   rw[decide_eq_false (by omega),decide_eq_false (by omega),if_neg (by decide)];omega
theorem Y5(a b:Int)(ha:Sml a.natAbs)(hb:Sml b.natAbs)(hs:Sml (a.natAbs*b.natAbs)):PCall P 128 [J7 a,J7 b] (J7 (a*b)):=by
 have sa:=ha.size
 have sb:=hb.size
 have hw:IntKind.i64.wrap (((bytesOf a.natAbs).size:Int)+((bytesOf b.natAbs).size:Int))=(((bytesOf a.natAbs).size+(bytesOf b.natAbs).size:Nat):Int):=by rw[w64 (by omega)];omega
 by_cases h1:(bytesOf a.natAbs).size+(bytesOf b.natAbs).size≤7
 · have k1:a.natAbs<256^(bytesOf a.natAbs).size:=V7.1 (Nat.le_refl _)
   have k2:b.natAbs<256^(bytesOf b.natAbs).size:=V7.1 (Nat.le_refl _)
   have k3:a.natAbs*b.natAbs<256^7:=by
    refine Nat.lt_of_lt_of_le (Nat.mul_lt_mul'' k1 k2) ?_
    rw[←Nat.pow_add]
    exact Nat.pow_le_pow_right (by decide) h1
   have l1:a.natAbs<256^7:=Nat.lt_of_lt_of_le k1 (Nat.pow_le_pow_right (by decide) (by omega))
   have l2:b.natAbs<256^7:=Nat.lt_of_lt_of_le k2 (Nat.pow_le_pow_right (by decide) (by omega))
   have e:(a*b).natAbs=a.natAbs*b.natAbs:=Int.natAbs_mul a b
   rw[←e]at k3
   have hw2:IntKind.i64.wrap (a*b)=a*b:=by
    generalize a*b=p at*
    exact w64 (by omega)
   have:=zpu a b (by rw[hw];exact decide_eq_true (by omega)) l1 l2 (by
    rw[hw2]
    generalize a*b=p at*
    omega)
   rw[hw2]at this
   exact this
 · have:=zpc a b (by rw[hw];exact decide_eq_false (by omega)) ha hb (zen ha) (zen hb) (zen hs) (U1 _) (U1 _)
   rw[sgn_mul]at this
   exact this
theorem zcU{a b:Int}(hb:b≠0)(hd:b∣a):(if(!(decide (a<0)==decide (b<0)))=true then-((a.natAbs/b.natAbs:Nat):Int)else((a.natAbs/b.natAbs:Nat):Int))=a/b:=by
 obtain⟨k,rfl⟩:=hd
 have hb0:0<b.natAbs:=by omega
 rw[Int.mul_ediv_cancel_left _ hb,Int.natAbs_mul,Nat.mul_div_cancel_left _ hb0]
 rcases Int.lt_trichotomy k 0 with hk|hk|hk
 · rcases Int.lt_or_le b 0 with h|h
   · have hp:0<b*k:=Int.mul_pos_of_neg_of_neg h hk
     rw[decide_eq_false (by omega),decide_eq_true h,if_pos (by decide)];omega
   · have hp:b*k<0:=Int.mul_neg_of_pos_of_neg (by omega) hk
     rw[decide_eq_true hp,decide_eq_false (by omega),if_pos (by decide)];omega
 · subst hk;simp
 · rcases Int.lt_or_le b 0 with h|h
   · have hp:b*k<0:=Int.mul_neg_of_neg_of_pos h hk
     rw[decide_eq_true hp,decide_eq_true h,if_neg (by decide)];omega
   · have hp:0<b*k:=Int.mul_pos (by omega) hk
     rw[decide_eq_false (by omega),decide_eq_false (by omega),if_neg (by decide)];omega
theorem zb3(a b:Int)(ha:Sml a.natAbs)(hb:Sml b.natAbs)(hb0:b≠0)(hd:b∣a):PCall P 233 [J7 a,J7 b] (.tup [J7 (a/b),J7 0,j5 0]):=by
 have nb:b.natAbs≠0:=by omega
 have hm:a.natAbs%b.natAbs=0:=Nat.mod_eq_zero_of_dvd (Int.natAbs_dvd_natAbs.2 hd)
 have g0:((bytesOf b.natAbs).toList==[])=false:=by rw[Z5];simpa using hb0
 have g3:decide ((((dig B24 (a.natAbs%b.natAbs)).length:Nat):Int)>0)=false:=by rw[hm];rfl
 have lq:=zen (ha.mono (Nat.div_le_self a.natAbs b.natAbs))
 have lr:(dig 16777216 (a.natAbs%b.natAbs)).length<2^40:=by rw[hm];decide
 have hr:(if decide (b<0)=true then-((a.natAbs%b.natAbs:Nat):Int)else((a.natAbs%b.natAbs:Nat):Int))=0:=by rw[hm];split<;>rfl
 by_cases h1:a.natAbs<256^7
 · by_cases h2:b.natAbs<256^7
   · exact ziZ a b h1 h2 hb0 hd
   · have g2:decide (((bytesOf b.natAbs).size:Int)≤7)=false:=decide_eq_false (fun h=>h2 (V7.1 (by omega)))
     have key: ∀s,(!(decide (a<0)==decide (b<0)))=s→PCall P 233 [J7 a,J7 b] (.tup [J7 (if(!(decide (a<0)==decide (b<0)))=true then-((a.natAbs/b.natAbs:Nat):Int)else((a.natAbs/b.natAbs:Nat):Int)),J7 (if decide (b<0)=true then-((a.natAbs%b.natAbs:Nat):Int)else((a.natAbs%b.natAbs:Nat):Int)),j5 0]):=by
      intro s hs
      cases s
      · exact zjv a b g0 g2 g3 hs h1 ha hb nb (zhK ha) (zhK hb) lq lr (U1 _) (U1 _)
      · exact zlC a b g0 g2 g3 hs h1 ha hb nb (zhK ha) (zhK hb) lq lr (U1 _) (U1 _)
     have:=key _ rfl
     rw[zcU hb0 hd,hr]at this
     exact this
 · have key : ∀ s, (!(decide (a < 0) == decide (b < 0))) = s → PCall P 233 [J7 a, J7 b] (.tup [J7 (if (!(decide (a < 0) == decide (b < 0))) = true then -((a.natAbs / b.natAbs : Nat) : Int) else ((a.natAbs / b.natAbs : Nat) : Int)), J7 (if decide (b < 0) = true then -((a.natAbs % b.natAbs : Nat) : Int) else ((a.natAbs % b.natAbs : Nat) : Int)), j5 0]) := by
     intro s hs
     cases s
     · exact zk5 a b g0 g3 hs (Nat.le_of_not_lt h1) ha hb nb (zhK ha) (zhK hb) lq lr (U1 _) (U1 _)
     · exact zjr a b g0 g3 hs (Nat.le_of_not_lt h1) ha hb nb (zhK ha) (zhK hb) lq lr (U1 _) (U1 _)
   have:=key _ rfl
   rw[zcU hb0 hd,hr]at this
   exact this
theorem z27(a b:Int)(ha:Sml a.natAbs)(hb:Sml b.natAbs)(hb0:b≠0)(hd:b∣a):z2P a b:=
 zhp a b (by rw[Z5];simpa using hb0) (zb3 a b ha hb hb0 hd) (zb3 a b ha hb hb0 hd)
theorem zcK(a b:Int)(ha:Sml a.natAbs)(hb:Sml b.natAbs):PCall P 213 [J7 a,J7 b] (j5 (if a<b then-1 else if a=b then 0 else 1)):=by
 have la:=zen ha
 have lb:=zen hb
 have oa:=U1 (dig 16777216 a.natAbs)
 have ob:=U1 (dig 16777216 b.natAbs)
 have sa:a.sign= -1∧a<0∨a.sign=0∧a=0∨a.sign=1∧0<a:=by
  rcases Int.lt_trichotomy a 0 with h|h|h
  · exact .inl ⟨Int.sign_eq_neg_one_of_neg h,h⟩
  · exact .inr (.inl ⟨by rw[h];rfl,h⟩)
  · exact .inr (.inr ⟨Int.sign_eq_one_of_pos h,h⟩)
 have sb:b.sign= -1∧b<0∨b.sign=0∧b=0∨b.sign=1∧0<b:=by
  rcases Int.lt_trichotomy b 0 with h|h|h
  · exact .inl ⟨Int.sign_eq_neg_one_of_neg h,h⟩
  · exact .inr (.inl ⟨by rw[h];rfl,h⟩)
  · exact .inr (.inr ⟨Int.sign_eq_one_of_pos h,h⟩)
 by_cases h1:a.sign=b.sign
 · have:=zoQ a b (by simp[h1]) ha hb la lb oa ob
   have hv:IntKind.i64.wrap (a.sign*z1v a.natAbs b.natAbs)=(if a<b then-1 else if a=b then 0 else 1):=by
    have hc:z1v a.natAbs b.natAbs= -1∧a.natAbs<b.natAbs∨z1v a.natAbs b.natAbs=0∧a.natAbs=b.natAbs∨z1v a.natAbs b.natAbs=1∧b.natAbs<a.natAbs:=by
     unfold z1v
     split
     · omega
     · split<;>omega
    rw[w64 (by rcases sa with⟨e,_⟩|⟨e,_⟩|⟨e,_⟩<;>rw[e]<;>omega)]
    rcases sa with⟨e,_⟩|⟨e,_⟩|⟨e,_⟩<;>rw[e]<;>(split<;>(try split)<;>omega)
   rw[hv]at this
   exact this
 · by_cases h2:a.sign<b.sign
   · have:=zps a b (by simp[h1]) (decide_eq_true h2)
     rw[if_pos (by omega)];exact this
   · have:=zmx a b (by simp[h1]) (decide_eq_false h2)
     rw[if_neg (by omega),if_neg (by rintro rfl;exact h1 rfl)];exact this
end Go.Fw
open Go
namespace Go.Fw
set_option maxRecDepth 100000
theorem z5H{b:Bool}{s:ByteArray}(h:J5 b s=true):s=bytesOf (J8 s):=by
 have hs:=z4l s
 rw[←zcp]
 unfold J5 at h
 by_cases h0:s.size=0
 · have:z2v s=[]:=List.length_eq_zero_iff.1 (by rw[V6];exact h0)
   rw[this]at hs ⊢
   exact hs.symm
 · rw[if_neg h0,decide_eq_true_eq]at h
   have hne:z2v s≠[]:=by
    intro e
    have:=V6 s
    rw[e]at this
    exact h0 this.symm
   have hc:=U2 hne
   generalize (z2v s).take ((z2v s).length-1)=l at hc
   generalize hx:(z2v s).getD ((z2v s).length-1) 0=x at hc
   have hf:=z3r l x
   rw[←hc,hs]at hf
   rw[hf]at h
   have hx0:x≠0:=by rintro rfl;exact h rfl
   have:tz (z2v s)=z2v s:=by rw[hc];exact z13 hx0 l
   rw[this,hs]
theorem U6{b:Bool}{s:ByteArray}(h:J5 b s=true):s=bytesOf (J8 s)∧b=decide (zOf b s<0)∧(zOf b s).natAbs=J8 s:=by
 refine⟨z5H h,?_,?_⟩
 · cases b
   · simp only[zOf,Bool.false_eq_true,if_false]
     exact(decide_eq_false (by omega)).symm
   · have hz : J8 s ≠ 0 := by
       intro e
       have h1:=z5H h
       rw[e]at h1
       rw[h1]at h
       revert h
       decide
     simp only[zOf,if_true]
     exact(decide_eq_true (by omega)).symm
 · cases b<;>simp only[zOf,Bool.false_eq_true,if_false,if_true]<;>omega
theorem z3v{b:Bool}{s:ByteArray}(h:J5 b s=true):CV.agg [.lit (.bool b),X9 s]=J7 (zOf b s):=by
 obtain⟨h1,h2,h3⟩:=U6 h
 unfold J7
 rw[←h2,h3,←h1]
theorem z0d(z:Int)(b:Bool)(s:ByteArray)(hv:J5 b s=true)(hz:Sml z.natAbs)(hs:Sml (J8 s)):PCall P 184 [J7 z,.agg [.lit (.bool b),X9 s]] (J7 (Nat.gcd z.natAbs (zOf b s).natAbs:Nat)):=by
 rw[z3v hv]
 exact z2J z _ hz (by rw[(U6 hv).2.2];exact hs)
theorem z1V(b:Bool)(s:ByteArray)(hv:J5 b s=true)(hs:Sml (J8 s)):PCall P 184 [.agg [.lit (.bool false),X9 ⟨#[]⟩],.agg [.lit (.bool b),X9 s]] (J7 (Nat.gcd 0 (zOf b s).natAbs:Nat)):=
 z0d 0 b s hv (by unfold Sml;decide) hs
theorem z8m(b:Bool)(s:ByteArray)(hv:J5 b s=true):PCall P 183 [.agg [.lit (.bool b),X9 s]] (j5 (zOf b s).sign):=by
 rw[z3v hv]
 exact Z7 _
def fB(b0 b1 b2 b3 b4:Bool):Nat→Bool
 |0=>b0
 |1=>b1
 |2=>b2
 |3=>b3
 |_=>b4
def fS(s0 s1 s2 s3 s4:ByteArray):Nat→ByteArray
 |0=>s0
 |1=>s1
 |2=>s2
 |3=>s3
 |_=>s4
abbrev r5(b0 b1 b2 b3 b4:Bool)(s0 s1 s2 s3 s4:ByteArray):CV:= .agg [.lit (.bool b0),X9 s0,.lit (.bool b1),X9 s1,.lit (.bool b2),X9 s2,.lit (.bool b3),X9 s3,.lit (.bool b4),X9 s4]
open Classical in
noncomputable def wdX(b0 b1 b2 b3 b4:Bool)(s0 s1 s2 s3 s4:ByteArray):Nat→Int:=
 if h: ∃W,PCall P 125 [r5 b0 b1 b2 b3 b4 s0 s1 s2 s3 s4] (wdV W false)then h.choose else fun _=>0
theorem z3B (b0 b1 b2 b3 b4 : Bool) (s0 s1 s2 s3 s4 : ByteArray) (h : ¬ ∀ i, i < 5 → z6D (fB b0 b1 b2 b3 b4) (fS s0 s1 s2 s3 s4) i) :
    PCall P 125 [r5 b0 b1 b2 b3 b4 s0 s1 s2 s3 s4] (wdV (wdX b0 b1 b2 b3 b4 s0 s1 s2 s3 s4) false):=by
 have h2: ∃W,PCall P 125 [r5 b0 b1 b2 b3 b4 s0 s1 s2 s3 s4] (wdV W false):=z9b h
 unfold wdX
 rw[dif_pos h2]
 exact h2.choose_spec
theorem zdC (b0 b1 b2 b3 b4 : Bool) (s0 s1 s2 s3 s4 : ByteArray) (h : ∀ i, i < 5 → z6D (fB b0 b1 b2 b3 b4) (fS s0 s1 s2 s3 s4) i) :
    PCall P 125 [r5 b0 b1 b2 b3 b4 s0 s1 s2 s3 s4] (wdV (z4h (fB b0 b1 b2 b3 b4) (fS s0 s1 s2 s3 s4)) true):=zaV h
theorem zrc(a b c d e:Int)(h:M5 a b c d e):PCall P 192 [.agg [j5 a,j5 b,j5 c,j5 d,j5 e]] (j5 (X1 a b c d e:Nat)):=by
 have:=z7p (f5 a b c d e) h.f5
 rw[zd7]at this
 exact this
end Go.Fw
