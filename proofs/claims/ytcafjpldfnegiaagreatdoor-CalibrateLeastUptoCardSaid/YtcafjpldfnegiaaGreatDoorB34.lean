/- A part of the proof that the law returns true for every input: an executor for the model's code, and what functions of the program compute. -/
import Derived.Test.YtcafjpldfnegiaaGreatDoorB11
import Derived.Test.YtcafjpldfnegiaaGreatDoorB15
import Derived.Test.YtcafjpldfnegiaaGreatDoorB25
import Derived.Test.YtcafjpldfnegiaaGreatDoorB28
import Derived.Test.YtcafjpldfnegiaaGreatDoorB30
import Derived.Test.YtcafjpldfnegiaaGreatDoorB32
import Derived.Test.YtcafjpldfnegiaaGreatDoorB33
import Derived.KernelRfl
open Go
namespace Go.Fw
set_option maxRecDepth 100000
theorem z75{a b:Nat}:z1j a b<0↔a<b:=by
 unfold z1j
 split
 · omega
 · split<;>omega
theorem zeO(xs:List Nat):zbI (own (j3 xs)):=by
 intro x hx
 simp only[own,j3,List.map_map,List.mem_map]at hx
 obtain⟨c,_,rfl⟩:=hx
 rfl
theorem zfw(xs ys:List Nat):own (j3 xs)++own (j3 ys)=own (j3 (xs++ys)):=by simp[own,j3]
theorem zjs(B:Nat)(hB:2≤B)(n:Nat):dig B n++[0,0]=Q7 B ((dig B n).length+2) n:=by
 have hd:Dig B (dig B n++[0,0]):=(Y5 hB n).append (by intro x hx;simp at hx;omega)
 have h:=z0r (by omega:0<B) _ hd
 rw[z2U,Q6 hB]at h
 simp only[List.length_append,List.length_cons,List.length_nil,val,Nat.mul_zero,Nat.add_zero,Nat.zero_add]at h
 exact h.symm
theorem z8Q(A D:Nat)(hD:D≠0)(ha:(dig B24 A).length<2^36)(hb:(dig B24 D).length<2^36):PCall P 253 [z1X A,z1X D] (.tup [z1X (A/D),z1X (A%D)]):=by
 have va:val 16777216 (dig B24 A)=A:=Q6 (by decide) A
 have vb:val 16777216 (dig B24 D)=D:=Q6 (by decide) D
 have hcmp:z1j (val B24 (dig B24 A)) (val B24 (dig B24 D))=z1j A D:=by rw[show(B24:Nat)=16777216 from rfl]at*;rw[va,vb]
 have hl0:(dig B24 D).length≠0:=by rw[Ne,Y2 (by decide)];exact hD
 by_cases hlt:A<D
 · have h1:=zlj _ _ (dig B24 A) (dig B24 D) (by rw[hcmp];exact decide_eq_true (z75.2 hlt)) rfl rfl (by rw[va]) (by rw[vb]) (by omega) (by omega)
   rw[Nat.div_eq_of_lt hlt,Nat.mod_eq_of_lt hlt]
   refine h1.weaken ?_
   intro Im y hy
   simp only[CV.rep,CV.repL]at hy ⊢
   obtain⟨ys,rfl,y1,l1,h2,h3,y2,l2,h4,h5,h6⟩:=hy
   refine⟨ys,rfl,y1,l1,h2,?_,y2,l2,h4,h5,h6⟩
   exact ze9 Im y1 (by simpa only[CV.rep]using h3)
 have hc0:decide (z1j (val B24 (dig B24 A)) (val B24 (dig B24 D))<0)=false:=by rw[hcmp];exact decide_eq_false ((not_congr z75).2 hlt)
 by_cases hone:(dig B24 D).length=1
 · obtain⟨d,hd⟩:=List.length_eq_one_iff.1 hone
   have hdD:d=D:=by
    rw[hd]at vb
    simpa[val]using vb
   subst hdD
   have hdl:d<16777216:=Y5 (by decide:2≤B24) d d (by rw[hd];simp)
   have hg:(dig B24 d).getD 0 0=d:=by rw[hd];rfl
   have hml:=Nat.mod_lt A (by omega:0<d)
   have h2:=zo5 _ _ (dig B24 A) (dig B24 d) hc0 (by rw[hone];rfl) rfl rfl (by rw[va]) (by rw[vb]) (by omega) (by omega) rfl (by rw[hg];omega) (by rw[hg];exact hdl) (by omega) (Y5 (by decide) _) (by omega) (by rw[hg,va];omega) (by omega)
    (Z8 (by omega)) rfl
   rw[hg,va,Int.toNat_natCast]at h2
   exact h2
 have h2l:2≤(dig B24 D).length:=by omega
 show PCall P 253 [.lst (dig B24 A).length (j3 (dig B24 A)),.lst (dig B24 D).length (j3 (dig B24 D))] _
 obtain⟨t,ht⟩: ∃t,t=D/B24^((dig B24 D).length-1):=⟨_,rfl⟩
 obtain⟨t1,F0,F1,hLV,hVt⟩:=zcI hD h2l ht
 have htd:(dig B24 D).getD ((dig B24 D).length-1) 0=t:=by
  have h1:=Y9 B24 (dig B24 D).length D ((dig B24 D).length-1) (by omega)
  rw[z0h (by decide)]at h1
  rw[h1,←ht]
  exact Nat.mod_eq_of_lt t1
 have hfac:=zgh t1
 generalize hFd:16777216/(t+1)=F at*
 generalize hMd:(dig B24 D).length=M at*
 generalize hNd:(dig B24 A).length=N at*
 have hV0:0<D*F:=Nat.mul_pos (Nat.pos_of_ne_zero hD) F0
 have hUl:(dig B24 (A*F)).length≤N+1:=by
  refine Q9 (by decide) ?_
  have h1:=J9 (b:=B24) (by decide) A
  rw[hNd]at h1
  rw[Nat.pow_succ]
  exact Nat.mul_lt_mul'' h1 F1
 have hUV:M≤(dig B24 (A*F)).length:=by
  rw[←hLV]
  exact Z4 (by decide) (Nat.mul_le_mul_right _ (by omega))
 have e1:IntKind.i64.wrap ((M:Int)-1)=((M-1:Nat):Int):=by rw[w64 (by omega)];omega
 have e2:((M-1:Nat):Int).toNat*1=M-1:=by omega
 have gp:=Z8 (xs:=dig B24 D) (i:=M-1) (by omega)
 rw[z2A,htd]at gp
 obtain⟨LU,hLU⟩: ∃LU,LU=(dig B24 (A*F)).length:=⟨_,rfl⟩
 have e3:IntKind.i64.wrap (((0+LU+2:Nat):Int)-(M:Int))=((LU+2-M:Nat):Int):=by rw[w64 (by omega)];omega
 have e4:IntKind.i64.wrap (((LU+2-M:Nat):Int)-1)=((LU+2-M:Nat):Int)-1:=w64 (by omega)
 have hds:=z0h (b:=B24) (by decide) (A*F)
 have htake:List.take (LU*1) (List.drop 0 (own (j3 (Q7 B24 (N+1) (A*F)))))=own (j3 (dig B24 (A*F))):=by
  rw[z0c,List.drop_zero,hLU,z1U B24 _ _ _ hUl,hds];rfl
 have hcells:[]++own (j3 (dig B24 (A*F)))++[MV.cv (CV.lit (.int .i64 0)),MV.cv (CV.lit (.int .i64 0))]=own (j3 (Q7 B24 (LU+2) (A*F))):=by
  rw[hLU,←zjs B24 (by decide),←zfw];rfl
 have hwk:(Q7 B24 (M+1) (D*F)).take M=dig B24 (D*F):=by
  rw[z1U B24 _ _ _ (by omega),←hLV,z0h (by decide)]
 have main:=ziz (R:= .of fun v=>v= .tup [z1X (A/D),z1X (A%D)]) rfl M (LU+2) (LU+2-M) F (D*F) (A*F) (Q7 B24 (M+1) (D*F)) h2l (by rw[j8];omega) (U1 (by decide) _ _) (by rw[hwk,Q6 (by decide)])
  hVt (by omega) (by omega) F0 F1 hV0 (by
   show CV.tup _=_
   rw[Nat.mul_div_mul_right _ _ F0,Nat.mul_mod_mul_right,Nat.mul_div_cancel _ F0]) (LU+2-M) (Nat.le_refl _) 0 (A*F) (by omega) (by
   have h1:=J9 (b:=B24) (by decide) (A*F)
   rw[←hLU]at h1
   have h3:D*F≠0:=by omega
   have h4:=zck h3
   rw[hLV]at h4
   calc A*F<B24^LU:=h1
    _≤B24^(M-1+(LU+2-M)):=Nat.pow_le_pow_right (by decide) (by omega)
    _=B24^(M-1)*B24^(LU+2-M):=Nat.pow_add ..
    _≤D*F*B24^(LU+2-M):=Nat.mul_le_mul_right _ h4) (by rw[Nat.zero_mul];exact Nat.pow_pos (by decide))
 rw[Nat.zero_mul,z1i]at main
 refine X6 (zm7 N M (dig B24 A) (dig B24 D) (t:Int) hc0 (beq_false_of_ne (by omega)) hNd.symm hMd.symm (by rw[va]) (by rw[vb]) (by omega) (by omega) hMd.symm (Y5 (by decide) _) (by omega) (by rw[hfac];omega) (by rw[hfac];omega)
  hNd.symm (Y5 (by decide) _) (by omega) (by rw[hfac];omega) (by rw[hfac];omega) (by rw[e1];omega) (by rw[e1,e2];exact gp) (by rw[w64 (by omega)];omega) rfl rfl ?_ ?_ ?_ ?_ ?_ ?_ ?_ ?_ ?_ ?_ ?_)
 all_goals rw[hfac]
 all_goals simp only[Int.toNat_natCast,va,vb]
 all_goals simp only[show(16777216:Nat)=B24 from rfl]
 all_goals rw[←hLU]
 · omega
 · omega
 · rw[htake];exact zeO _
 · rw[htake,J1,Q5,←hLU,Nat.mul_one]
 · omega
 · omega
 · rw[htake,List.nil_append,J1,Q5,←hLU,Nat.zero_add,Nat.mul_one]
 · rw[hLV,e3];exact⟨by omega,by omega,by omega,by omega,trivial⟩
 · rw[htake,hcells];exact j9 _
 · rw[hLV,e3,V7];exact j9 _
 · rw[htake,hcells,hLV,e3,V7,e4,Int.toNat_natCast,Nat.mul_one]
   simp only[Nat.zero_add]
   exact main
end Go.Fw
open Go IntKind
namespace Go.Fw
set_option maxRecDepth 100000
theorem znD(a b:Bool)(t w t' w':Nat)(hv:J2 a (bytesOf (2^t*w))=true)(hv':J2 b (bytesOf (2^t'*w'))=true)(hw:w%2=1)(hw':w'%2=1)(g1:decide ((↑(bytesOf (2^t*w)).size:Int)≤7)=false)(h1:((↑(dig 16777216 (2^t*w)).length:Int)==0)=false)(h2:((↑(dig 16777216 (2^t'*w')).length:Int)==0)=false)(s25_0:Sml (2^t*w))(s28_0:Sml (2^t'*w'))(s41_0:(dig 16777216 (2^t*w)).length<2^40)(s48_0:(dig 16777216 (2^t'*w')).length<2^40)(o8:BlksCv [some (own (j3 (dig 16777216 (2^t*w)))),some (own (j3 (X1 (dig 16777216 (2^t*w)) (t/24) ((dig 16777216 (2^t*w)).length-t/24) w)))])(o10:BlksCv [some (own (j3 (dig 16777216 (2^t'*w')))),some (own (j3 (X1 (dig 16777216 (2^t'*w')) (t'/24) ((dig 16777216 (2^t'*w')).length-t'/24) w')))]){R:CV→Prop}(hR:Ok P 184 (loopHead P 184 1) ⟨J3 111 [(4,.ptr 0 0),(9,.sl (0+1) (t/24) (dig 16777216 w).length 1),(10,.sl (0+1+1) (t'/24) (dig 16777216 w').length 1),(11,.cv (.lit (.int .i64 (t:Int)))),(12,.cv (.lit (.int .i64 (t':Int))))],[some [.cv (.lit (.bool false)),.cv (.lit (.string {data:= #[]}))],some (own (j3 (X1 (dig 16777216 (2^t*w)) (t/24) ((dig 16777216 (2^t*w)).length-t/24) w))),some (own (j3 (X1 (dig 16777216 (2^t'*w')) (t'/24) ((dig 16777216 (2^t'*w')).length-t'/24) w')))]⟩ (.of R)):W6 P 184 [.agg [.lit (.bool a),X3 (bytesOf (2^t*w))],.agg [.lit (.bool b),X3 (bytesOf (2^t'*w'))]] R:=
 Y4 (keep:=[4,9,10,11,12]) (σ:=[2,5,6]) (.c ((J4 (a) (bytesOf (2^t*w))).eqB hv) (.c ((J4 (b) (bytesOf (2^t'*w'))).eqB hv') (.o 4 (.r (.lit (.bool true))) (.o 8 (.r (.lit (.bool true))) (.b 16 g1 (.c (Q0 (2^t*w) s25_0) (.c (Q0 (2^t'*w') s28_0) (.o 25 (.f (.sl 0 0 (dig 16777216 (2^t*w)).length 1) (j3 (dig B24 (2^t*w)))) (.o 28 (.f (.sl 0 0 (dig 16777216 (2^t'*w')).length 1) (j3 (dig B24 (2^t'*w')))) (.b 34 h1 (.b 39 h2 (.c (z4T (t) (w) hw s41_0) (.c o8 (.c (z4T (t') (w') hw' s48_0) (.c o10 (.o 41 (.m [5] (.tup [.sl 0 (t/24) (dig 16777216 w).length 1,.cv (.lit (.int .i64 (t:Int)))]) [some (own (j3 (X1 (dig B24 (2^t*w)) (t/24) ((dig B24 (2^t*w)).length-t/24) w)))]) (.o 48 (.m [6] (.tup [.sl 0 (t'/24) (dig 16777216 w').length 1,.cv (.lit (.int .i64 (t':Int)))]) [some (own (j3 (X1 (dig B24 (2^t'*w')) (t'/24) ((dig B24 (2^t'*w')).length-t'/24) w')))]) (.o 54 .stop .nil)))))))))))))))))) (by kernel_rfl) rfl hR (.cons (by simp[CvL]) (.cons (j9 _) (.cons (j9 _) .nil)))
theorem zoO(a b:Bool)(N M:Nat)(hv:J2 a (bytesOf N)=true)(hv':J2 b (bytesOf M)=true)(g1:decide ((↑(bytesOf N).size:Int)≤7)=false)(g3:((↑(dig B24 N).length:Int)==0)=false)(g4:((↑(dig B24 M).length:Int)==0)=true)(s25_0:Sml N)(s28_0:Sml M)(s42_0:(dig 16777216 N).length=(dig 16777216 N).length)(s42_1:(dig 16777216 M).length=(dig 16777216 M).length)(s42_2:dig 16777216 N=dig 16777216 (val 16777216 (dig 16777216 N)))(s42_3:dig 16777216 M=dig 16777216 (val 16777216 (dig 16777216 M)))(s42_4:(dig 16777216 N).length<2^40)(s42_5:(dig 16777216 M).length<2^40)(s43_0:(dig 16777216 (val 16777216 (dig 16777216 N)+val 16777216 (dig 16777216 M))).length=(dig 16777216 (val 16777216 (dig 16777216 N)+val 16777216 (dig 16777216 M))).length)(s43_1:Dig 16777216 (dig 16777216 (val 16777216 (dig 16777216 N)+val 16777216 (dig 16777216 M))))(s43_2:(dig 16777216 (val 16777216 (dig 16777216 N)+val 16777216 (dig 16777216 M))).length<2^40)(o8:List.take ((dig 16777216 N).length*1) (List.drop 0 (own (j3 (dig 16777216 N))))=List.map MV.cv (j3 (dig 16777216 N)))(o9:List.take ((dig 16777216 M).length*1) (List.drop 0 (own (j3 (dig 16777216 M))))=List.map MV.cv (j3 (dig 16777216 M))):PCall P 184 [.agg [.lit (.bool a),X3 (bytesOf N)],.agg [.lit (.bool b),X3 (bytesOf M)]] (.agg [.lit (.bool (decide ((if false=true then-(↑(val B24 (dig 16777216 (val 16777216 (dig 16777216 N)+val 16777216 (dig 16777216 M)))):Int)else(↑(val B24 (dig 16777216 (val 16777216 (dig 16777216 N)+val 16777216 (dig 16777216 M)))):Int))<0))),.lit (.string (bytesOf (if false=true then-(↑(val 16777216 (dig 16777216 (val 16777216 (dig 16777216 N)+val 16777216 (dig 16777216 M)))):Int)else(↑(val 16777216 (dig 16777216 (val 16777216 (dig 16777216 N)+val 16777216 (dig 16777216 M)))):Int)).natAbs))]):=
 j5 (.r 4 ((J4 (a) (bytesOf N)).eqB hv) (.r 8 ((J4 (b) (bytesOf M)).eqB hv') (.b 16 g1 (.f 25 (Q0 (N) s25_0) (.f 28 (Q0 (M) s28_0) (.b 34 g3 (.b 39 g4 (.rs 42 [j3 (dig 16777216 N),j3 (dig 16777216 M)] (zcQ ((dig 16777216 N).length) ((dig 16777216 M).length) (dig 16777216 N) (dig 16777216 M) s42_0 s42_1 s42_2 s42_3 s42_4 s42_5) (.c o8 (.c o9 (.r 43 (z2I (false) ((dig 16777216 (val 16777216 (dig 16777216 N)+val 16777216 (dig 16777216 M))).length) (dig 16777216 (val 16777216 (dig 16777216 N)+val 16777216 (dig 16777216 M))) s43_0 s43_1 s43_2) (.c (lq 2 2) .nil)))))))))))) (by kernel_rfl)
theorem zmk(a b:Bool)(N M:Nat)(hv:J2 a (bytesOf N)=true)(hv':J2 b (bytesOf M)=true)(g1:decide ((↑(bytesOf N).size:Int)≤7)=true)(g2:decide ((↑(bytesOf M).size:Int)≤7)=false)(g3:((↑(dig B24 N).length:Int)==0)=true)(s25_0:Sml N)(s28_0:Sml M)(s42_0:(dig 16777216 N).length=(dig 16777216 N).length)(s42_1:(dig 16777216 M).length=(dig 16777216 M).length)(s42_2:dig 16777216 N=dig 16777216 (val 16777216 (dig 16777216 N)))(s42_3:dig 16777216 M=dig 16777216 (val 16777216 (dig 16777216 M)))(s42_4:(dig 16777216 N).length<2^40)(s42_5:(dig 16777216 M).length<2^40)(s43_0:(dig 16777216 (val 16777216 (dig 16777216 N)+val 16777216 (dig 16777216 M))).length=(dig 16777216 (val 16777216 (dig 16777216 N)+val 16777216 (dig 16777216 M))).length)(s43_1:Dig 16777216 (dig 16777216 (val 16777216 (dig 16777216 N)+val 16777216 (dig 16777216 M))))(s43_2:(dig 16777216 (val 16777216 (dig 16777216 N)+val 16777216 (dig 16777216 M))).length<2^40)(o8:List.take ((dig 16777216 N).length*1) (List.drop 0 (own (j3 (dig 16777216 N))))=List.map MV.cv (j3 (dig 16777216 N)))(o9:List.take ((dig 16777216 M).length*1) (List.drop 0 (own (j3 (dig 16777216 M))))=List.map MV.cv (j3 (dig 16777216 M))):PCall P 184 [.agg [.lit (.bool a),X3 (bytesOf N)],.agg [.lit (.bool b),X3 (bytesOf M)]] (.agg [.lit (.bool (decide ((if false=true then-(↑(val B24 (dig 16777216 (val 16777216 (dig 16777216 N)+val 16777216 (dig 16777216 M)))):Int)else(↑(val B24 (dig 16777216 (val 16777216 (dig 16777216 N)+val 16777216 (dig 16777216 M)))):Int))<0))),.lit (.string (bytesOf (if false=true then-(↑(val 16777216 (dig 16777216 (val 16777216 (dig 16777216 N)+val 16777216 (dig 16777216 M)))):Int)else(↑(val 16777216 (dig 16777216 (val 16777216 (dig 16777216 N)+val 16777216 (dig 16777216 M)))):Int)).natAbs))]):=
 j5 (.r 4 ((J4 (a) (bytesOf N)).eqB hv) (.r 8 ((J4 (b) (bytesOf M)).eqB hv') (.b 16 g1 (.b 22 g2 (.f 25 (Q0 (N) s25_0) (.f 28 (Q0 (M) s28_0) (.b 34 g3 (.rs 42 [j3 (dig 16777216 N),j3 (dig 16777216 M)] (zcQ ((dig 16777216 N).length) ((dig 16777216 M).length) (dig 16777216 N) (dig 16777216 M) s42_0 s42_1 s42_2 s42_3 s42_4 s42_5) (.c o8 (.c o9 (.r 43 (z2I (false) ((dig 16777216 (val 16777216 (dig 16777216 N)+val 16777216 (dig 16777216 M))).length) (dig 16777216 (val 16777216 (dig 16777216 N)+val 16777216 (dig 16777216 M))) s43_0 s43_1 s43_2) (.c (lq 2 2) .nil)))))))))))) (by kernel_rfl)
end Go.Fw
open Go
namespace Go.Fw
set_option maxRecDepth 100000
theorem Sml.dig24{n:Nat}(h:Sml n):(dig B24 n).length<2^31:=by
 obtain⟨k,hk,hn⟩:=h.lt
 refine Nat.lt_of_le_of_lt (Q9 (by decide) (k:=k) (Nat.lt_of_lt_of_le hn (Nat.pow_le_pow_left (by decide) k))) (by omega)
theorem zpd{n:Nat}(h:n≠0)(hs:Sml n):v2 n<2^60:=by
 obtain⟨k,hk,hn⟩:=hs.lt
 obtain⟨h1,h2⟩:=z2B h
 have h3:2^v2 n<2^(8*k):=by
  rw[Nat.pow_mul]
  refine Nat.lt_of_le_of_lt ?_ hn
  conv=>rhs;rw[h1]
  exact Nat.le_mul_of_pos_right _ (by omega)
 have h4:=(Nat.pow_lt_pow_iff_right (a:=2) (by decide)).1 h3
 omega
theorem zco {Q : CV → Prop} (x y : Nat) (hx : x ≠ 0) (hy : y ≠ 0) (sx : Sml x) (sy : Sml y) (hQ : Q (J6 (Nat.gcd x y : Nat))) :
    Ok P 184 (loopHead P 184 1) ⟨J3 111 [(4,.ptr 0 0),(9,.sl 1 (v2 x/24) (dig B24 (z3n x)).length 1),(10,.sl 2 (v2 y/24) (dig B24 (z3n y)).length 1),(11,.cv (j6 (v2 x:Int))),(12,.cv (j6 (v2 y:Int)))],
     [some [.cv (.lit (.bool false)),.cv (X3 ⟨#[]⟩)],some (own (j3 (X1 (dig B24 x) (v2 x/24) ((dig B24 x).length-v2 x/24) (z3n x)))),some (own (j3 (X1 (dig B24 y) (v2 y/24) ((dig B24 y).length-v2 y/24) (z3n y))))]⟩ (.of Q):=by
 obtain⟨x1,x2⟩:=z2B hx
 obtain⟨y1,y2⟩:=z2B hy
 have hg:2^(min (v2 x) (v2 y))*Nat.gcd (z3n x) (z3n y)=Nat.gcd x y:=by
  rw[←zj3 x2 y2,←x1,←y1]
 have lo: ∀{n:Nat},Sml n→(dig B24 (z3n n)).length<2^40:=fun {n} h=>by
  have:=Z4 (b:=B24) (by decide) (z5x n)
  have:=h.dig24
  omega
 have hgl:Nat.gcd x y≤x:=Nat.gcd_le_left _ (by omega)
 refine z5C (v2 x:Int) (v2 y:Int) (Nat.gcd (z3n x) (z3n y)) (fun j xs p=>?_) _ _ _ (Nat.le_refl _) x2 y2 (lo sx) (lo sy) rfl _ _ _ _ ?_ ?_
 · refine zeN (v2 x) (v2 y) (zpd hx sx) (Nat.gcd x y) _ ?_ ?_ hQ hg j xs p
   · intro h0
     have:=Nat.eq_zero_of_gcd_eq_zero_left h0
     omega
   · have:=(sx.mono hgl).dig24;omega
 · exact z3q x1 (Nat.le_refl _) (by omega)
 · exact z3q y1 (Nat.le_refl _) (by omega)
theorem z8A(z:Int)(n:Nat)(h:z.natAbs=n):J2 (decide (z<0)) (bytesOf n)=true:=by rw[←h];exact z4f z
theorem z2k(a b:Int)(ha:Sml a.natAbs)(hb:Sml b.natAbs):z6I a b:=by
 by_cases s1:a.natAbs<256^7∧b.natAbs<256^7
 · exact zlN a b s1.1 s1.2
 unfold z6I
 have gen: ∀x y:Nat,x=a.natAbs→y=b.natAbs→PCall P 184 [.agg [.lit (.bool (decide (a<0))),X3 (bytesOf x)],.agg [.lit (.bool (decide (b<0))),X3 (bytesOf y)]] (J6 (Nat.gcd x y:Nat)):=by
  intro x y hx hy
  rw[←hx]at ha
  rw[←hy]at hb
  have na:(dig 16777216 x).length<2^31:=ha.dig24
  have nb:(dig 16777216 y).length<2^31:=hb.dig24
  have bx:J2 (decide (a<0)) (bytesOf x)=true:=z8A a x hx.symm
  have by':J2 (decide (b<0)) (bytesOf y)=true:=z8A b y hy.symm
  have va:val 16777216 (dig 16777216 x)=x:=Q6 (by decide) x
  have vb:val 16777216 (dig 16777216 y)=y:=Q6 (by decide) y
  have lz: ∀{n:Nat},n≠0→(((dig 16777216 n).length:Int)==0)=false:=fun {n} h=>by
   have:(dig 16777216 n).length≠0:=fun h2=>h ((Y2 (by decide)).1 h2)
   exact beq_false_of_ne (by omega)
  have ge7: ∀{n:Nat},¬n<256^7→decide (((bytesOf n).size:Int)≤7)=false:=fun {n} h=>decide_eq_false (fun h2=>h (X7.1 (by omega)))
  have le7: ∀{n:Nat},n<256^7→decide (((bytesOf n).size:Int)≤7)=true:=fun {n} h=>decide_eq_true (by have:=X7.2 h;omega)
  by_cases zx:x=0
  · have hyb: ¬y<256^7:=fun h=>s1 ⟨by rw[←hx,zx];decide,by rw[←hy];exact h⟩
    have h0:val 16777216 (dig 16777216 x)+val 16777216 (dig 16777216 y)=y:=by rw[va,vb,zx,Nat.zero_add]
    have h1:=zmk (decide (a<0)) (decide (b<0)) x y bx by' (le7 (by rw[zx];decide)) (ge7 hyb) (by rw[zx];rfl) ha hb rfl rfl (by rw[va]) (by rw[vb]) (by omega) (by omega) rfl (Y5 (by decide) _) (by rw[h0];omega) (V8 _) (V8 _)
    have h2:val 16777216 (dig 16777216 (val 16777216 (dig 16777216 x)+val 16777216 (dig 16777216 y)))=Nat.gcd x y:=by rw[Q6 (by decide),h0,zx,Nat.gcd_zero_left]
    rw[h2,z10]at h1
    exact h1
  by_cases zy:y=0
  · have hxb: ¬x<256^7:=fun h=>s1 ⟨by rw[←hx];exact h,by rw[←hy,zy];decide⟩
    have h0:val 16777216 (dig 16777216 x)+val 16777216 (dig 16777216 y)=x:=by rw[va,vb,zy,Nat.add_zero]
    have h1:=zoO (decide (a<0)) (decide (b<0)) x y bx by' (ge7 hxb) (lz zx) (by rw[zy];rfl) ha hb rfl rfl (by rw[va]) (by rw[vb]) (by omega) (by omega) rfl (Y5 (by decide) _) (by rw[h0];omega) (V8 _) (V8 _)
    have h2:val 16777216 (dig 16777216 (val 16777216 (dig 16777216 x)+val 16777216 (dig 16777216 y)))=Nat.gcd x y:=by rw[Q6 (by decide),h0,zy,Nat.gcd_zero_right]
    rw[h2,z10]at h1
    exact h1
  obtain⟨x1,x2⟩:=z2B zx
  obtain⟨y1,y2⟩:=z2B zy
  have tl:=zco (Q:=fun v=>v=J6 (Nat.gcd x y:Nat)) x y zx zy ha hb rfl
  have lzx:=lz zx
  have lzy:=lz zy
  by_cases hxs:x<256^7
  · have hyb: ¬y<256^7:=fun h=>s1 ⟨by rw[←hx];exact hxs,by rw[←hy];exact h⟩
    have hyg:=ge7 hyb
    have hxl:=le7 hxs
    rw[x1]at bx hxl lzx ha na
    rw[y1]at by' hyg lzy hb nb
    have:=zmK (decide (a<0)) (decide (b<0)) (v2 x) (z3n x) (v2 y) (z3n y) bx by' x2 y2 hxl hyg lzx lzy ha hb (by omega) (by omega) (BlksCv.two (j9 _) (j9 _)) (BlksCv.two (j9 _) (j9 _)) (R:=fun v=>v=J6 (Nat.gcd x y:Nat))
    rw[←x1,←y1]at this
    exact X6 (this tl)
  · have hxg:=ge7 hxs
    rw[x1]at bx hxg lzx ha na
    rw[y1]at by' lzy hb nb
    have:=znD (decide (a<0)) (decide (b<0)) (v2 x) (z3n x) (v2 y) (z3n y) bx by' x2 y2 hxg lzx lzy ha hb (by omega) (by omega) (BlksCv.two (j9 _) (j9 _)) (BlksCv.two (j9 _) (j9 _)) (R:=fun v=>v=J6 (Nat.gcd x y:Nat))
    rw[←x1,←y1]at this
    exact X6 (this tl)
 exact gen _ _ rfl rfl
end Go.Fw
open Go
namespace Go.Fw
set_option maxRecDepth 100000
theorem vd(n:Nat):val B24 (dig B24 n)=n:=Q6 (by decide) n
theorem z3o(A D:Nat)(hD:D≠0)(ha:(dig B24 A).length<2^36)(hb:(dig B24 D).length<2^36):PCall P 253 [.lst (dig B24 A).length (j3 (dig B24 A)),.lst (dig B24 D).length (j3 (dig B24 D))] (.tup [z1X (A/D),z1X (A%D)]):=z8Q A D hD ha hb
theorem z3z(b:Bool)(n:Nat)(hl:(dig B24 n).length<2^40):PCall P 196 [.lit (.bool b),.lst (dig B24 n).length (j3 (dig B24 n))] (J6 (if b then-(n:Int)else n)):=by
 have:=z2I b (dig B24 n).length (dig B24 n) rfl (Y5 (by decide) _) hl
 rwa[vd]at this
theorem zcL(a b:Nat)(ha:(dig B24 a).length<2^40)(hb:(dig B24 b).length<2^40):PCall P 197 [.lst (dig B24 a).length (j3 (dig B24 a)),.lst (dig B24 b).length (j3 (dig B24 b))] (z1X (a+b)):=z6E a b ha hb
theorem z78(a b:Nat)(ha:(dig B24 a).length<2^40)(hb:b≤a):PCall P 199 [.lst (dig B24 a).length (j3 (dig B24 a)),.lst (dig B24 b).length (j3 (dig B24 b))] (z1X (a-b)):=by
 have hm:=Z4 (b:=B24) (by decide) (Nat.sub_le a b)
 have:=(z6u a b ha hb).pcall (by rw[Q5,j8];omega)
 have e:List.take ((dig B24 (a-b)).length*1) (List.drop 0 (j3 (Q7 B24 (dig B24 a).length (a-b))))=j3 (dig B24 (a-b)):=by
  have h1:=z1U B24 _ _ (a-b) hm
  rw[z0h (by decide)]at h1
  rw[Nat.mul_one,List.drop_zero]
  simp only[j3,←List.map_take,h1]
 rw[e]at this
 exact this
theorem zgD(a b:Nat)(ha:(dig B24 a).length<2^40)(hb:(dig B24 b).length<2^40):PCall P 200 [.lst (dig B24 a).length (j3 (dig B24 a)),.lst (dig B24 b).length (j3 (dig B24 b))] (z1X (a*b)):=by
 have:=zgp _ _ (dig B24 a) (dig B24 b) rfl rfl (Y5 (by decide) _) (Y5 (by decide) _) ha hb
 rwa[vd,vd]at this
theorem z52(a b:Nat)(ha:(dig B24 a).length<2^40)(hb:(dig B24 b).length<2^40):PCall P 198 [.lst (dig B24 a).length (j3 (dig B24 a)),.lst (dig B24 b).length (j3 (dig B24 b))] (j6 (z1j a b)):=z5Q a b (by omega) (by omega)
theorem z0f(z:Int):PCall P 194 [J6 z] (.tup [j6 (if z.natAbs<72057594037927936 then z else 0),.lit (.bool (decide (z.natAbs<72057594037927936)))]):=by
 by_cases h:z.natAbs<72057594037927936
 · rw[if_pos h,decide_eq_true h];exact z0b z h
 · rw[if_neg h,decide_eq_false h];exact z4o z (Nat.le_of_not_lt h)
end Go.Fw
open Go IntKind
namespace Go.Fw
set_option maxRecDepth 100000
theorem zoD(a b:Int)(h1:(decide (a.natAbs<72057594037927936))=true)(h2:(decide (b.natAbs<72057594037927936))=true)(s33_0:(-9223372036854775808:Int)≤i64.wrap ((if a.natAbs<72057594037927936 then a else(0:Int))+if b.natAbs<72057594037927936 then b else(0:Int))∧i64.wrap ((if a.natAbs<72057594037927936 then a else(0:Int))+if b.natAbs<72057594037927936 then b else(0:Int))≤9223372036854775807):PCall P 127 [J6 a,J6 b] (.agg [.lit (.bool (decide (i64.wrap ((if a.natAbs<72057594037927936 then a else(0:Int))+if b.natAbs<72057594037927936 then b else(0:Int))<0))),.lit (.string (bytesOf (i64.wrap ((if a.natAbs<72057594037927936 then a else(0:Int))+if b.natAbs<72057594037927936 then b else(0:Int))).natAbs))]):=
 j5 (.r 4 (J5 (a)) (.r 8 (J5 (b)) (.r 13 (z0f (a)) (.b 20 h1 (.r 22 (z0f (b)) (.b 29 h2 (.r 33 (Y1 (i64.wrap ((if a.natAbs<72057594037927936 then a else(0:Int))+if b.natAbs<72057594037927936 then b else(0:Int))) s33_0) (.c (lq 2 2) .nil)))))))) (by kernel_rfl)
theorem zn7(a b:Int)(h1:(decide (a.natAbs<72057594037927936))=true)(h2:(decide (b.natAbs<72057594037927936))=false)(h3:(decide (a<0)==decide (b<0))=true)(s32_0:Sml a.natAbs)(s35_0:Sml b.natAbs)(s49_0:(dig 16777216 a.natAbs).length<2^40)(s49_1:(dig 16777216 b.natAbs).length<2^40)(s50_0:(dig 16777216 (a.natAbs+b.natAbs)).length<2^40)(o10:List.take ((dig 16777216 a.natAbs).length*1) (List.drop 0 (own (j3 (dig 16777216 a.natAbs))))=List.map MV.cv (j3 (dig 16777216 a.natAbs)))(o11:List.take ((dig 16777216 b.natAbs).length*1) (List.drop 0 (own (j3 (dig 16777216 b.natAbs))))=List.map MV.cv (j3 (dig 16777216 b.natAbs))):PCall P 127 [J6 a,J6 b] (.agg [.lit (.bool (decide ((if decide (a<0)=true then-(↑(a.natAbs+b.natAbs):Int)else(↑(a.natAbs+b.natAbs):Int))<0))),.lit (.string (bytesOf (if decide (a<0)=true then-(↑(a.natAbs+b.natAbs):Int)else(↑(a.natAbs+b.natAbs):Int)).natAbs))]):=
 j5 (.r 4 (J5 (a)) (.r 8 (J5 (b)) (.r 13 (z0f (a)) (.b 20 h1 (.r 22 (z0f (b)) (.b 29 h2 (.f 32 (Q0 (a.natAbs) s32_0) (.f 35 (Q0 (b.natAbs) s35_0) (.b 44 h3 (.rs 49 [j3 (dig 16777216 a.natAbs),j3 (dig 16777216 b.natAbs)] (zcL (a.natAbs) (b.natAbs) s49_0 s49_1) (.c o10 (.c o11 (.r 50 (z3z (decide (a<0)) (a.natAbs+b.natAbs) s50_0) (.c (lq 2 2) .nil)))))))))))))) (by kernel_rfl)
theorem znC(a b:Int)(h1:(decide (a.natAbs<72057594037927936))=true)(h2:(decide (b.natAbs<72057594037927936))=false)(h3:(decide (a<0)==decide (b<0))=false)(h4:(decide (z1j a.natAbs b.natAbs≥0))=false)(s32_0:Sml a.natAbs)(s35_0:Sml b.natAbs)(s47_0:(dig 16777216 a.natAbs).length<2^40)(s47_1 s55_0:(dig 16777216 b.natAbs).length<2^40)(s55_1:a.natAbs≤b.natAbs)(s56_0:(dig 16777216 (b.natAbs-a.natAbs)).length<2^40)(o10:List.take ((dig 16777216 a.natAbs).length*1) (List.drop 0 (own (j3 (dig 16777216 a.natAbs))))=List.map MV.cv (j3 (dig 16777216 a.natAbs)))(o11 o14:List.take ((dig 16777216 b.natAbs).length*1) (List.drop 0 (own (j3 (dig 16777216 b.natAbs))))=List.map MV.cv (j3 (dig 16777216 b.natAbs)))(o15:List.take ((dig 16777216 a.natAbs).length*1) (List.drop 0 (own (j3 (dig 16777216 a.natAbs))))=List.map MV.cv (j3 (dig 16777216 a.natAbs))):PCall P 127 [J6 a,J6 b] (.agg [.lit (.bool (decide ((if decide (b<0)=true then-(↑(b.natAbs-a.natAbs):Int)else(↑(b.natAbs-a.natAbs):Int))<0))),.lit (.string (bytesOf (if decide (b<0)=true then-(↑(b.natAbs-a.natAbs):Int)else(↑(b.natAbs-a.natAbs):Int)).natAbs))]):=
 j5 (.c (J5 (a)) (.c (J5 (b)) (.c (z0f (a)) (.o 4 (.r (.lit (.bool true))) (.o 8 (.r (.lit (.bool true))) (.o 13 (.r (.tup [.lit (.int .i64 (if a.natAbs<72057594037927936 then a else(0:Int))),.lit (.bool (decide (a.natAbs<72057594037927936)))])) (.b 20 h1 (.c (z0f (b)) (.o 22 (.r (.tup [.lit (.int .i64 (if b.natAbs<72057594037927936 then b else(0:Int))),.lit (.bool (decide (b.natAbs<72057594037927936)))])) (.b 29 h2 (.c (Q0 (a.natAbs) s32_0) (.c (Q0 (b.natAbs) s35_0) (.o 32 (.f (.sl 0 0 (dig 16777216 a.natAbs).length 1) (j3 (dig B24 a.natAbs))) (.o 35 (.f (.sl 0 0 (dig 16777216 b.natAbs).length 1) (j3 (dig B24 b.natAbs))) (.b 44 h3 (.c (z52 (a.natAbs) (b.natAbs) s47_0 s47_1) (.c o10 (.c o11 (.o 47 (.k (.lit (.int .i64 (z1j a.natAbs b.natAbs))) [j3 (dig 16777216 a.natAbs),j3 (dig 16777216 b.natAbs)]) (.b 50 h4 (.c (z78 (b.natAbs) (a.natAbs) s55_0 s55_1) (.c o14 (.c o15 (.c (z3z (decide (b<0)) (b.natAbs-a.natAbs) s56_0) (.c (lq 2 2) (.o 55 (.r (.lst (dig 16777216 (b.natAbs-a.natAbs)).length (j3 (dig 16777216 (b.natAbs-a.natAbs)))) [j3 (dig 16777216 b.natAbs),j3 (dig 16777216 a.natAbs)]) (.o 56 (.r (.agg [.lit (.bool (decide ((if decide (b<0)=true then-(↑(b.natAbs-a.natAbs):Int)else(↑(b.natAbs-a.natAbs):Int))<0))),.lit (.string (bytesOf (if decide (b<0)=true then-(↑(b.natAbs-a.natAbs):Int)else(↑(b.natAbs-a.natAbs):Int)).natAbs))])) .nil))))))))))))))))))))))))))) (by kernel_rfl)
theorem zlz(a b:Int)(h1:(decide (a.natAbs<72057594037927936))=false)(h2:(decide (a<0)==decide (b<0))=true)(s23_0:Sml a.natAbs)(s26_0:Sml b.natAbs)(s40_0:(dig 16777216 a.natAbs).length<2^40)(s40_1:(dig 16777216 b.natAbs).length<2^40)(s41_0:(dig 16777216 (a.natAbs+b.natAbs)).length<2^40)(o8:List.take ((dig 16777216 a.natAbs).length*1) (List.drop 0 (own (j3 (dig 16777216 a.natAbs))))=List.map MV.cv (j3 (dig 16777216 a.natAbs)))(o9:List.take ((dig 16777216 b.natAbs).length*1) (List.drop 0 (own (j3 (dig 16777216 b.natAbs))))=List.map MV.cv (j3 (dig 16777216 b.natAbs))):PCall P 127 [J6 a,J6 b] (.agg [.lit (.bool (decide ((if decide (a<0)=true then-(↑(a.natAbs+b.natAbs):Int)else(↑(a.natAbs+b.natAbs):Int))<0))),.lit (.string (bytesOf (if decide (a<0)=true then-(↑(a.natAbs+b.natAbs):Int)else(↑(a.natAbs+b.natAbs):Int)).natAbs))]):=
 j5 (.r 4 (J5 (a)) (.r 8 (J5 (b)) (.r 13 (z0f (a)) (.b 20 h1 (.f 23 (Q0 (a.natAbs) s23_0) (.f 26 (Q0 (b.natAbs) s26_0) (.b 35 h2 (.rs 40 [j3 (dig 16777216 a.natAbs),j3 (dig 16777216 b.natAbs)] (zcL (a.natAbs) (b.natAbs) s40_0 s40_1) (.c o8 (.c o9 (.r 41 (z3z (decide (a<0)) (a.natAbs+b.natAbs) s41_0) (.c (lq 2 2) .nil)))))))))))) (by kernel_rfl)
theorem zne(a b:Int)(h1:(decide (a.natAbs<72057594037927936))=false)(h2:(decide (a<0)==decide (b<0))=false)(h3:(decide (z1j a.natAbs b.natAbs≥0))=true)(s23_0:Sml a.natAbs)(s26_0:Sml b.natAbs)(s38_0:(dig 16777216 a.natAbs).length<2^40)(s38_1:(dig 16777216 b.natAbs).length<2^40)(s46_0:(dig 16777216 a.natAbs).length<2^40)(s46_1:b.natAbs≤a.natAbs)(s47_0:(dig 16777216 (a.natAbs-b.natAbs)).length<2^40)(o8:List.take ((dig 16777216 a.natAbs).length*1) (List.drop 0 (own (j3 (dig 16777216 a.natAbs))))=List.map MV.cv (j3 (dig 16777216 a.natAbs)))(o9:List.take ((dig 16777216 b.natAbs).length*1) (List.drop 0 (own (j3 (dig 16777216 b.natAbs))))=List.map MV.cv (j3 (dig 16777216 b.natAbs)))(o12:List.take ((dig 16777216 a.natAbs).length*1) (List.drop 0 (own (j3 (dig 16777216 a.natAbs))))=List.map MV.cv (j3 (dig 16777216 a.natAbs)))(o13:List.take ((dig 16777216 b.natAbs).length*1) (List.drop 0 (own (j3 (dig 16777216 b.natAbs))))=List.map MV.cv (j3 (dig 16777216 b.natAbs))):PCall P 127 [J6 a,J6 b] (.agg [.lit (.bool (decide ((if decide (a<0)=true then-(↑(a.natAbs-b.natAbs):Int)else(↑(a.natAbs-b.natAbs):Int))<0))),.lit (.string (bytesOf (if decide (a<0)=true then-(↑(a.natAbs-b.natAbs):Int)else(↑(a.natAbs-b.natAbs):Int)).natAbs))]):=
 j5 (.c (J5 (a)) (.c (J5 (b)) (.c (z0f (a)) (.o 4 (.r (.lit (.bool true))) (.o 8 (.r (.lit (.bool true))) (.o 13 (.r (.tup [.lit (.int .i64 (if a.natAbs<72057594037927936 then a else(0:Int))),.lit (.bool (decide (a.natAbs<72057594037927936)))])) (.b 20 h1 (.c (Q0 (a.natAbs) s23_0) (.c (Q0 (b.natAbs) s26_0) (.o 23 (.f (.sl 0 0 (dig 16777216 a.natAbs).length 1) (j3 (dig B24 a.natAbs))) (.o 26 (.f (.sl 0 0 (dig 16777216 b.natAbs).length 1) (j3 (dig B24 b.natAbs))) (.b 35 h2 (.c (z52 (a.natAbs) (b.natAbs) s38_0 s38_1) (.c o8 (.c o9 (.o 38 (.k (.lit (.int .i64 (z1j a.natAbs b.natAbs))) [j3 (dig 16777216 a.natAbs),j3 (dig 16777216 b.natAbs)]) (.b 41 h3 (.c (z78 (a.natAbs) (b.natAbs) s46_0 s46_1) (.c o12 (.c o13 (.c (z3z (decide (a<0)) (a.natAbs-b.natAbs) s47_0) (.c (lq 2 2) (.o 46 (.r (.lst (dig 16777216 (a.natAbs-b.natAbs)).length (j3 (dig 16777216 (a.natAbs-b.natAbs)))) [j3 (dig 16777216 a.natAbs),j3 (dig 16777216 b.natAbs)]) (.o 47 (.r (.agg [.lit (.bool (decide ((if decide (a<0)=true then-(↑(a.natAbs-b.natAbs):Int)else(↑(a.natAbs-b.natAbs):Int))<0))),.lit (.string (bytesOf (if decide (a<0)=true then-(↑(a.natAbs-b.natAbs):Int)else(↑(a.natAbs-b.natAbs):Int)).natAbs))])) .nil)))))))))))))))))))))))) (by kernel_rfl)
theorem zlP(a b:Int)(h1:(decide (a.natAbs<72057594037927936))=false)(h2:(decide (a<0)==decide (b<0))=false)(h3:(decide (z1j a.natAbs b.natAbs≥0))=false)(s23_0:Sml a.natAbs)(s26_0:Sml b.natAbs)(s38_0:(dig 16777216 a.natAbs).length<2^40)(s38_1 s46_0:(dig 16777216 b.natAbs).length<2^40)(s46_1:a.natAbs≤b.natAbs)(s47_0:(dig 16777216 (b.natAbs-a.natAbs)).length<2^40)(o8:List.take ((dig 16777216 a.natAbs).length*1) (List.drop 0 (own (j3 (dig 16777216 a.natAbs))))=List.map MV.cv (j3 (dig 16777216 a.natAbs)))(o9 o12:List.take ((dig 16777216 b.natAbs).length*1) (List.drop 0 (own (j3 (dig 16777216 b.natAbs))))=List.map MV.cv (j3 (dig 16777216 b.natAbs)))(o13:List.take ((dig 16777216 a.natAbs).length*1) (List.drop 0 (own (j3 (dig 16777216 a.natAbs))))=List.map MV.cv (j3 (dig 16777216 a.natAbs))):PCall P 127 [J6 a,J6 b] (.agg [.lit (.bool (decide ((if decide (b<0)=true then-(↑(b.natAbs-a.natAbs):Int)else(↑(b.natAbs-a.natAbs):Int))<0))),.lit (.string (bytesOf (if decide (b<0)=true then-(↑(b.natAbs-a.natAbs):Int)else(↑(b.natAbs-a.natAbs):Int)).natAbs))]):=
 j5 (.c (J5 (a)) (.c (J5 (b)) (.c (z0f (a)) (.o 4 (.r (.lit (.bool true))) (.o 8 (.r (.lit (.bool true))) (.o 13 (.r (.tup [.lit (.int .i64 (if a.natAbs<72057594037927936 then a else(0:Int))),.lit (.bool (decide (a.natAbs<72057594037927936)))])) (.b 20 h1 (.c (Q0 (a.natAbs) s23_0) (.c (Q0 (b.natAbs) s26_0) (.o 23 (.f (.sl 0 0 (dig 16777216 a.natAbs).length 1) (j3 (dig B24 a.natAbs))) (.o 26 (.f (.sl 0 0 (dig 16777216 b.natAbs).length 1) (j3 (dig B24 b.natAbs))) (.b 35 h2 (.c (z52 (a.natAbs) (b.natAbs) s38_0 s38_1) (.c o8 (.c o9 (.o 38 (.k (.lit (.int .i64 (z1j a.natAbs b.natAbs))) [j3 (dig 16777216 a.natAbs),j3 (dig 16777216 b.natAbs)]) (.b 41 h3 (.c (z78 (b.natAbs) (a.natAbs) s46_0 s46_1) (.c o12 (.c o13 (.c (z3z (decide (b<0)) (b.natAbs-a.natAbs) s47_0) (.c (lq 2 2) (.o 46 (.r (.lst (dig 16777216 (b.natAbs-a.natAbs)).length (j3 (dig 16777216 (b.natAbs-a.natAbs)))) [j3 (dig 16777216 b.natAbs),j3 (dig 16777216 a.natAbs)]) (.o 47 (.r (.agg [.lit (.bool (decide ((if decide (b<0)=true then-(↑(b.natAbs-a.natAbs):Int)else(↑(b.natAbs-a.natAbs):Int))<0))),.lit (.string (bytesOf (if decide (b<0)=true then-(↑(b.natAbs-a.natAbs):Int)else(↑(b.natAbs-a.natAbs):Int)).natAbs))])) .nil)))))))))))))))))))))))) (by kernel_rfl)
theorem znF(a b:Int)(h1:(decide (i64.wrap ((↑(bytesOf a.natAbs).size:Int)+(↑(bytesOf b.natAbs).size:Int))≤7))=true)(s22_0:a.natAbs<256^7)(s29_0:b.natAbs<256^7)(s38_0:(-9223372036854775808:Int)≤i64.wrap (a*b)∧i64.wrap (a*b)≤9223372036854775807):PCall P 128 [J6 a,J6 b] (.agg [.lit (.bool (decide (i64.wrap (a*b)<0))),.lit (.string (bytesOf (i64.wrap (a*b)).natAbs))]):=
 j5 (.r 4 (J5 (a)) (.r 8 (J5 (b)) (.b 20 h1 (.r 22 (z0b (a) s22_0) (.r 29 (z0b (b) s29_0) (.r 38 (Y1 (i64.wrap (a*b)) s38_0) (.c (lq 2 2) .nil))))))) (by kernel_rfl)
theorem zn8(a b:Int)(h1:(decide (i64.wrap ((↑(bytesOf a.natAbs).size:Int)+(↑(bytesOf b.natAbs).size:Int))≤7))=false)(s28_0:Sml a.natAbs)(s31_0:Sml b.natAbs)(s32_0:(dig 16777216 a.natAbs).length<2^40)(s32_1:(dig 16777216 b.natAbs).length<2^40)(s33_0:(dig 16777216 (a.natAbs*b.natAbs)).length<2^40)(o6:List.take ((dig 16777216 a.natAbs).length*1) (List.drop 0 (own (j3 (dig 16777216 a.natAbs))))=List.map MV.cv (j3 (dig 16777216 a.natAbs)))(o7:List.take ((dig 16777216 b.natAbs).length*1) (List.drop 0 (own (j3 (dig 16777216 b.natAbs))))=List.map MV.cv (j3 (dig 16777216 b.natAbs))):PCall P 128 [J6 a,J6 b] (.agg [.lit (.bool (decide ((if(!decide (a<0)==decide (b<0))=true then-(↑(a.natAbs*b.natAbs):Int)else(↑(a.natAbs*b.natAbs):Int))<0))),.lit (.string (bytesOf (if(!decide (a<0)==decide (b<0))=true then-(↑(a.natAbs*b.natAbs):Int)else(↑(a.natAbs*b.natAbs):Int)).natAbs))]):=
 j5 (.r 4 (J5 (a)) (.r 8 (J5 (b)) (.b 20 h1 (.f 28 (Q0 (a.natAbs) s28_0) (.f 31 (Q0 (b.natAbs) s31_0) (.rs 32 [j3 (dig 16777216 a.natAbs),j3 (dig 16777216 b.natAbs)] (zgD (a.natAbs) (b.natAbs) s32_0 s32_1) (.c o6 (.c o7 (.r 33 (z3z (!decide (a<0)==decide (b<0)) (a.natAbs*b.natAbs) s33_0) (.c (lq 2 2) .nil)))))))))) (by kernel_rfl)
theorem zlZ(a b:Int)(h1:(a.sign != b.sign)=true)(h2:(decide (a.sign<b.sign))=true):PCall P 213 [J6 a,J6 b] (.lit (.int .i64 (-1:Int))):=
 j5 (.r 4 (J5 (a)) (.r 8 (J5 (b)) (.r 13 (Z3 (a)) (.r 15 (Z3 (b)) (.b 21 h1 (.b 25 h2 .nil)))))) (by kernel_rfl)
theorem zmn(a b:Int)(h1:(a.sign != b.sign)=true)(h2:(decide (a.sign<b.sign))=false):PCall P 213 [J6 a,J6 b] (.lit (.int .i64 1)):=
 j5 (.r 4 (J5 (a)) (.r 8 (J5 (b)) (.r 13 (Z3 (a)) (.r 15 (Z3 (b)) (.b 21 h1 (.b 25 h2 .nil)))))) (by kernel_rfl)
theorem zmP(a b:Int)(h1:(a.sign != b.sign)=false)(s25_0:Sml a.natAbs)(s28_0:Sml b.natAbs)(s29_0:(dig 16777216 a.natAbs).length<2^40)(s29_1:(dig 16777216 b.natAbs).length<2^40)(o8:List.take ((dig 16777216 a.natAbs).length*1) (List.drop 0 (own (j3 (dig 16777216 a.natAbs))))=List.map MV.cv (j3 (dig 16777216 a.natAbs)))(o9:List.take ((dig 16777216 b.natAbs).length*1) (List.drop 0 (own (j3 (dig 16777216 b.natAbs))))=List.map MV.cv (j3 (dig 16777216 b.natAbs))):PCall P 213 [J6 a,J6 b] (.lit (.int .i64 (i64.wrap (a.sign*z1j a.natAbs b.natAbs)))):=
 j5 (.c (J5 (a)) (.c (J5 (b)) (.c (Z3 (a)) (.c (Z3 (b)) (.o 4 (.r (.lit (.bool true))) (.o 8 (.r (.lit (.bool true))) (.o 13 (.r (.lit (.int .i64 a.sign))) (.o 15 (.r (.lit (.int .i64 b.sign))) (.b 21 h1 (.c (Q0 (a.natAbs) s25_0) (.c (Q0 (b.natAbs) s28_0) (.c (z52 (a.natAbs) (b.natAbs) s29_0 s29_1) (.c o8 (.c o9 (.o 25 (.f (.sl 0 0 (dig 16777216 a.natAbs).length 1) (j3 (dig B24 a.natAbs))) (.o 28 (.f (.sl 0 0 (dig 16777216 b.natAbs).length 1) (j3 (dig B24 b.natAbs))) (.o 29 (.k (.lit (.int .i64 (z1j a.natAbs b.natAbs))) [j3 (dig 16777216 a.natAbs),j3 (dig 16777216 b.natAbs)]) .nil))))))))))))))))) (by kernel_rfl)
end Go.Fw
