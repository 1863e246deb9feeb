/- A part of the proof that the law returns true for every input: an executor for the model's code, and what functions of the program compute. -/
import Derived.Test.YtcafjpldfnegiaaGreatDoorB11
import Derived.Test.YtcafjpldfnegiaaGreatDoorB15
import Derived.Test.YtcafjpldfnegiaaGreatDoorB30
import Derived.Test.YtcafjpldfnegiaaGreatDoorB31
import Derived.KernelRfl
open Go
namespace Go.Fw
set_option maxRecDepth 100000
theorem Low.set_ge{p:Nat}{zs:List Int}(h:Low p zs){k:Nat}(d:Int)(hk:k<zs.length)(hp:p≤k):Low p (zs.set k d):=by
 intro i hi
 rw[z1o _ _ _ _ hk,if_neg (by omega)]
 exact h i hi
theorem Low.zof{p o W:Nat}:Low p (zof (Q7 B24 o W)):=by
 intro k _
 rw[z6T]
 have:(Q7 B24 o W).getD k 0<16777216:=(U1 (by decide) o W).get (by decide) k
 omega
theorem za9{zs:List Int}{k:Nat}{c x:Int}(hk:k<zs.length)(hx:zs.getD k 0=x):z1f (B24:Nat) (zs.set k (x+c))=z1f (B24:Nat) zs+c*((B24:Nat):Int)^k:=by
 rw[z56 _ _ _ _ hk,hx,show x+c-x=c by omega]
theorem z7j{o W k:Nat}(h:W/B24^k=0):(zof (Q7 B24 o W)).getD k 0=0:=by
 rw[z6T]
 rcases Nat.lt_or_ge k o with hk|hk
 · rw[Y9 _ _ _ _ hk,h];rfl
 · rw[z3j (by rw[j8];exact hk)];rfl
theorem zlT{t v1:Nat}(h:v1<16777216)(ht:t≤v1*16777216+16777215):t<281474993487872:=by omega
section
variable{R:Goal}(hn:J0 R.n [0,1,2,3]=true)(n o m j:Nat)(F:Int)(ws qs:List Nat)(V W Q:Nat)(hQd:Q=W/B24^j/V)(hn2:2≤n)(hws:n≤ws.length)(hwd:Dig B24 ws)(hwv:val B24 (ws.take n)=V)(hV0:0<V)(hjn:j+n<o)(ho:o<2^41)(hW:W<V*B24^(j+1))(hjm:j<m)(hqs:m=qs.length)
 (hR:Ok P 253 (loopHead P 253 0) (dS0 n o m ((j:Int)-1) F ws (Q7 B24 o (W-Q*V*B24^j)) (qs.set j Q)) R)
include hQd hn hws hwd hwv hV0 hjn ho hW hjm hqs hR
omit hW in
theorem zmR (zs : List Int) (hz : zs.length = o) (hlo : Low (j + n) zs) (htl : zs.getD (j + n) 0 = -1) (hhi : ∀ k, j + n < k → zs.getD k 0 = 0) (hv : z1f (B24 : Nat) zs = (W : Int) - (((Q + 1) * V * B24 ^ j : Nat) : Int)) :
    Ok P 253 (loopHead P 253 3) (dS3 n o m j 0 F (Q:Int) 0 ws qs (own (z66 zs))) R:=by
 have hV:=zpD n ws V hws hwd hwv
 refine zlx hn n o m j F ws qs hws hwd hjn ho (z1f (B24:Nat) zs) (fun k=>zs.getD k 0) _ ?_ n 0 zs 0 (by omega) (Nat.zero_le _) hz hlo (fun k _=>rfl) (by simp[val]) (by omega)
 intro ys c hy hlo2 htl2 hv2 hc
 have e1:IntKind.i64.wrap ((j:Int)+(n:Int))=((j+n:Nat):Int):=by rw[w64 (by omega)];omega
 have e2:(0:Nat)+((j+n:Nat):Int).toNat*1=j+n:=by omega
 have e3:IntKind.i64.wrap ((j:Int)-1)=(j:Int)-1:=w64 (by omega)
 have e4:(0:Nat)+(j:Int).toNat*1=j:=by omega
 have e5:IntKind.i64.wrap (-1+c)= -1+c:=w64 (by omega)
 have hx:=htl2 (j+n) (Nat.le_refl _)
 rw[htl]at hx
 have gx:=z1g (zs:=ys) (k:=j+n) (by omega)
 rw[hx]at gx
 have hset:j4 (own (z66 ys)) (j+n) [.cv (.lit (.int .i64 (-1+c)))]=own (z66 (ys.set (j+n) (-1+c))):=z29 (by omega)
 have hsq:j4 (own (j3 qs)) j [.cv (.lit (.int .i64 (Q:Int)))]=own (j3 (qs.set j Q)):=Q8 (by omega)
 have hp:=za9 (c:=c) (by omega:j+n<ys.length) hx
 rw[hwv]at hv2
 have hend:=zdo B24 o n j W V Q (ys.set (j+n) (-1+c)) (by decide) (by rw[List.length_set];exact hy) hjn
  (fun k hk=>(hlo2.set_ge (-1+c) (by omega) (Nat.le_refl _)) k hk) (fun k hk=>by rw[z1o _ _ _ _ (by omega),if_neg (by omega),htl2 k (by omega)];exact hhi k hk) hV hV0 hQd (by
   rw[hp,hv2,hv]
   have e:(Q+1)*V*B24^j=Q*V*B24^j+V*B24^j:=by rw[Nat.add_mul,Nat.one_mul,Nat.add_mul]
   rw[e,Int.natCast_add]
   omega)
 refine ziT n o m j n F _ c (-1) ws qs _ (decide_eq_false (by omega)) (by rw[e1];omega) (by rw[e1,e2];exact gx) (by rw[e1];omega) (by rw[e1,e2,J1,z0E];omega) (by omega) (by rw[e4,J1,Q5];omega)
  (by rw[e1,e2,e5,hset];exact j9 _) (by rw[e4,hsq];exact j9 _) hn ?_
 rw[e1,e2,e3,e4,e5,hset,hsq,hend,z79]
 exact hR
include hn2
theorem zjv(hVt:8388608≤V/B24^(n-1)):Ok P 253 (loopHead P 253 0) (dS0 n o m (j:Int) F ws (Q7 B24 o W) qs) R:=by
 have hV:=zpD n ws V hws hwd hwv
 have G:=zge hn2 hV hVt hW
 have d1:=z9L n ws V hws hwd hwv (k:=n-1) (by omega)
 have d2:=z9L n ws V hws hwd hwv (k:=n-2) (by omega)
 rw[Nat.mod_eq_of_lt G.hv1']at d1
 have ht:=zn3 (j:=j) hn2 hV hW
 have htl:=G.top_le
 have e1:IntKind.i64.wrap ((j:Int)+(n:Int))=((j+n:Nat):Int):=by rw[w64 (by omega)];omega
 have e2:IntKind.i64.wrap (((j+n:Nat):Int)-1)=((j+n-1:Nat):Int):=by rw[w64 (by omega)];omega
 have e3:IntKind.i64.wrap ((n:Int)-1)=((n-1:Nat):Int):=by rw[w64 (by omega)];omega
 have f1:(0:Nat)+((j+n:Nat):Int).toNat*1=j+n:=by omega
 have f2:(0:Nat)+((j+n-1:Nat):Int).toNat*1=j+n-1:=by omega
 have f3:(0:Nat)+((n-1:Nat):Int).toNat*1=n-1:=by omega
 have hlen:=j8 B24 o W
 have g1:=Y7 (Z8 (xs:=Q7 B24 o W) (i:=j+n) (by omega))
 have g2:=Y7 (Z8 (xs:=Q7 B24 o W) (i:=j+n-1) (by omega))
 have g3:=Y7 (Z8 (xs:=ws) (i:=n-1) (by omega))
 have x1:(Q7 B24 o W).getD (j+n) 0=W/B24^(j+n)%B24:=Y9 _ _ _ _ (by omega)
 have x2:(Q7 B24 o W).getD (j+n-1) 0=W/B24^(j+n-1)%B24:=Y9 _ _ _ _ (by omega)
 have x3:(Q7 B24 o W).getD (j+n-2) 0=W/B24^(j+n-2)%B24:=Y9 _ _ _ _ (by omega)
 have b1:W/B24^(j+n)%B24<16777216:=Nat.mod_lt _ (by decide)
 have b2:W/B24^(j+n-1)%B24<16777216:=Nat.mod_lt _ (by decide)
 have htop: ∀(a b t:Nat),a<16777216→b<16777216→a*16777216+b=t→IntKind.i64.wrap (IntKind.i64.wrap ((a:Int)*16777216)+(b:Int))=(t:Int):=by
  intro a b t ha hb h
  rw[w64 (n:=(a:Int)*16777216) (by omega),w64 (by omega)];omega
 have hw:=htop _ _ _ b1 b2 ht
 have hcs:=R24.Corr.start G
 have hguess:=zep hn n o m j F ws (Q7 B24 o W) qs _ V _ _ _ _ _ G hn2 hws hlen hjn ho d1 d2 x3 ?_
 · have hv1:=G.hv1
   have hv1':V/B24^(n-1)<16777216:=G.hv1'
   have htl':W/B24^(j+n-1)≤V/B24^(n-1)*16777216+16777215:=htl
   have hst:=zaW hVt hv1' htl'
   have hmm:=zfC hVt (zlT hv1' htl')
   refine zoc n o m j F ((W/B24^(j+n)%B24:Nat):Int) ((W/B24^(j+n-1)%B24:Nat):Int) ((V/B24^(n-1):Nat):Int) ws _ qs (by rw[e1];omega) (by rw[e1,f1,←x1];exact g1) (by rw[e1,e2];omega) (by rw[e1,e2,f2,←x2];exact g2)
    (by rw[e3];omega) (by rw[e3,f3,←d1];exact g3) (by omega) hn ?_
   rw[hw,hmm]
   exact hguess _ hcs hst
 · intro g hg hQ
   rw[←hQd]at hQ
   rw[←z79]
   refine zoR hn n o m j g F ws qs hws hwd hjn ho (W:Int) (fun k=>(zof (Q7 B24 o W)).getD k 0) hg ?_ n 0 _ 0 (by omega) (Nat.zero_le _) (by rw[z42];exact hlen) Low.zof (fun k _=>rfl) ?_ (by omega)
   · intro zs c hz hlo hti hv hc
     have hx:=hti (j+n) (Nat.le_refl _)
     have hxb:=(Low.zof (p:=j+n+1) (o:=o) (W:=W)) (j+n) (by omega)
     obtain⟨x,hxe⟩: ∃x,x=(zof (Q7 B24 o W)).getD (j+n) 0:=⟨_,rfl⟩
     rw[←hxe]at hx hxb
     have e5:IntKind.i64.wrap (x+c)=x+c:=w64 (by omega)
     have e6:(0:Nat)+(j:Int).toNat*1=j:=by omega
     have e7:IntKind.i64.wrap ((j:Int)-1)=(j:Int)-1:=w64 (by omega)
     have gx:=z1g (zs:=zs) (k:=j+n) (by omega)
     rw[hx]at gx
     have hset:j4 (own (z66 zs)) (j+n) [.cv (.lit (.int .i64 (x+c)))]=own (z66 (zs.set (j+n) (x+c))):=z29 (by omega)
     have gy:=z1g (zs:=zs.set (j+n) (x+c)) (k:=j+n) (by rw[List.length_set];omega)
     rw[z1o _ _ _ _ (by omega),if_pos rfl]at gy
     have hp:=za9 (c:=c) (by omega:j+n<zs.length) hx
     rw[hwv]at hv
     have hlen':(zs.set (j+n) (x+c)).length=o:=by rw[List.length_set];exact hz
     have hlo':=hlo.set_ge (x+c) (by omega:j+n<zs.length) (Nat.le_refl _)
     have hhi': ∀k,j+n<k→(zs.set (j+n) (x+c)).getD k 0=0:=fun k hk=>by
      rw[z1o _ _ _ _ (by omega),if_neg (by omega),hti k (by omega)]
      exact z7j (zdu hV hW hk)
     have hval:z1f (B24:Nat) (zs.set (j+n) (x+c))=(W:Int)-((g*V*B24^j:Nat):Int):=by rw[hp,hv]
     have hat:(zs.set (j+n) (x+c)).getD (j+n) 0=x+c:=by rw[z1o _ _ _ _ (by omega),if_pos rfl]
     rcases hQ with hQ|hQ
     · have hQ':=hQ.symm
       subst hQ'
       have hend:=zdo B24 o n j W V _ (zs.set (j+n) (x+c)) (by decide) hlen' hjn (fun k hk=>hlo' k hk) hhi' hV hV0 hQd hval
       have h0: ¬x+c<0:=by
        rw[hend]at hat
        have:=(Low.zof (p:=j+n+1) (o:=o) (W:=W-Q*V*B24^j)) (j+n) (by omega)
        omega
       have hsq:j4 (own (j3 qs)) j [.cv (.lit (.int .i64 (Q:Int)))]=own (j3 (qs.set j Q)):=Q8 (by omega)
       refine zjP n o m j n F _ c x (x+c) ws qs _ (decide_eq_false (by omega)) (decide_eq_false h0) (by rw[e1];omega) (by rw[e1,f1];exact gx) (by rw[e1];omega) (by rw[e1,f1,J1,z0E];omega) (by rw[e1];omega)
        (by rw[e1,f1,e5,hset];exact gy) (by omega) (by rw[e6,J1,Q5];omega) (by rw[e1,f1,e5,hset];exact j9 _) (by rw[e6,hsq];exact j9 _) hn ?_
       rw[e1,f1,e5,e6,e7,hset,hsq,hend,z79]
       exact hR
     · have hQ':=hQ.symm
       subst hQ'
       have hneg:=ziM B24 o n j W V _ (zs.set (j+n) (x+c)) (by decide) hlen' hjn (fun k hk=>hlo' k hk) hhi' hV hV0 (by rw[hQd]) hval
       have h0:x+c= -1:=by rw[←hat,hneg]
       have e8:IntKind.i64.wrap (((Q+1:Nat):Int)-1)=(Q:Int):=by rw[w64 (by omega)];omega
       refine ziF n o m j n F _ c x (x+c) ws qs _ (decide_eq_false (by omega)) (decide_eq_true (by omega)) (by rw[e1];omega) (by rw[e1,f1];exact gx) (by rw[e1];omega) (by rw[e1,f1,J1,z0E];omega) (by rw[e1];omega)
        (by rw[e1,f1,e5,hset];exact gy) (by rw[e1,f1,e5,hset];exact j9 _) hn ?_
       rw[e1,f1,e5,e8,hset]
       exact zmR hn n o m j F ws qs V W Q hQd hws hwd hwv hV0 hjn ho hjm hqs hR _ hlen' hlo' hneg hhi' hval
   · rw[z2H,z06]
     have:W<B24^o:=by
      have h1:V*B24^(j+1)≤B24^n*B24^(j+1):=Nat.mul_le_mul_right _ (Nat.le_of_lt hV)
      have h2:B24^n*B24^(j+1)≤B24^o:=by rw[←Nat.pow_add];exact Nat.pow_le_pow_right (by decide) (by omega)
      omega
     rw[Nat.mod_eq_of_lt this]
     simp[val]
end
end Go.Fw
open Go IntKind
namespace Go.Fw
set_option maxRecDepth 100000
theorem zoh(n o m F:Nat)(ws xs qs:List Nat)(s5_0:o=(List.take o xs).length)(s5_1:Dig 16777216 (List.take o xs))(s5_2:(List.take o xs).length<2^62)(s9_0:(dig 16777216 (val 16777216 (List.take o xs))).length=(dig 16777216 (val 16777216 (List.take o xs))).length)(s9_1:0<F)(s9_2:F<16777216)(s9_3:(dig 16777216 (val 16777216 (List.take o xs))).length<2^40)(s9_4:Dig 16777216 (dig 16777216 (val 16777216 (List.take o xs))))(s16_0:m=(List.take m qs).length)(s16_1:Dig 16777216 (List.take m qs))(s16_2:(List.take m qs).length<2^62)(o1:List.take (o*1) (List.drop 0 (own (j3 xs)))=List.map MV.cv (j3 (List.take o xs)))(o5:List.take (m*1) (List.drop 0 (own (j3 qs)))=List.map MV.cv (j3 (List.take m qs))){R:Goal}(hR:R.c (.tup [.lst (dig 16777216 (val 16777216 (List.take m qs))).length (j3 (dig 16777216 (val 16777216 (List.take m qs)))),.lst (dig 16777216 (val 16777216 (dig 16777216 (val 16777216 (List.take o xs)))/F)).length (j3 (dig 16777216 (val 16777216 (dig 16777216 (val 16777216 (List.take o xs)))/F)))])):Ok P 253 (loopHead P 253 0) ⟨J3 238 [(8,.sl 0 0 1 1),(9,.sl 1 0 n 1),(10,.cv (j6 (n:Int))),(11,.sl 2 0 o 1),(12,.sl 3 0 m 1),(13,.cv (j6 (-1:Int)))],[some [.cv (j6 (F:Int))],some (own (j3 ws)),some (own (j3 xs)),some (own (j3 qs))]⟩ R:=
 okT (.rs 5 [j3 (List.take o xs)] (z0G (o) (List.take o xs) s5_0 s5_1 s5_2) (.c o1 (.c (bq 0 1) (.r 9 (rshort_v ((dig 16777216 (val 16777216 (List.take o xs))).length) (dig 16777216 (val 16777216 (List.take o xs))) (F) s9_0 s9_1 s9_2 s9_3 s9_4) (.rs 16 [j3 (List.take m qs)] (z0G (m) (List.take m qs) s16_0 s16_1 s16_2) (.c o5 .nil)))))) (by kernel_rfl) hR
end Go.Fw
open Go
namespace Go.Fw
set_option maxRecDepth 100000
theorem zcn {B : Nat} (hB : 0 < B) (Q W V W0 j : Nat) (h1 : Q * B ^ (j + 1) * V + W = W0) (h2 : W < V * B ^ (j + 1)) (hV : 0 < V) :
    W/B^j/V<B∧(Q*B+W/B^j/V)*B^j*V+(W-W/B^j/V*V*B^j)=W0∧W-W/B^j/V*V*B^j<V*B^j:=by
 obtain⟨z1,z2⟩:=z5w W V (V*B^j) j B rfl hV hB
 rw[←Nat.mul_assoc]at z1 z2
 refine⟨?_,?_,?_⟩
 · rw[Nat.div_lt_iff_lt_mul hV,Nat.div_lt_iff_lt_mul (Nat.pow_pos hB),Nat.mul_comm B V,Nat.mul_assoc,Nat.mul_comm B,←Nat.pow_succ];exact h2
 · have h4 : (Q * B + W / B ^ j / V) * B ^ j * V = Q * B ^ (j + 1) * V + W / B ^ j / V * V * B ^ j := by
     rw[Nat.add_mul,Nat.add_mul,Nat.pow_succ]
     congr 1
     · rw[Nat.mul_comm (B^j) B,←Nat.mul_assoc]
     · rw[Nat.mul_assoc,Nat.mul_comm (B^j),←Nat.mul_assoc]
   omega
 · omega
theorem zgE{B:Nat}(hB:0<B)(m j Q q:Nat)(hj:j<m)(hq:q<B):(Q7 B m (Q*B^(j+1))).set j q=Q7 B m ((Q*B+q)*B^j):=by
 have e0:Q*B^(j+1)/B^j%B=0:=by rw[Nat.pow_succ,Nat.mul_comm (B^j),←Nat.mul_assoc,Nat.mul_div_cancel _ (Nat.pow_pos hB),Nat.mul_mod_left]
 have h:=z0W hB m (Q*B^(j+1)) j q hj (by rw[e0,Nat.zero_add];exact hq)
 rw[e0,Nat.zero_add]at h
 rw[h,Nat.add_mul,Nat.pow_succ,Nat.mul_comm (B^j),←Nat.mul_assoc]
theorem ziz {R : Goal} (hn : J0 R.n [0, 1, 2, 3] = true) (n o m F V W0 : Nat) (ws : List Nat) (hn2 : 2 ≤ n) (hws : n ≤ ws.length) (hwd : Dig B24 ws) (hwv : val B24 (ws.take n) = V) (hVt : 8388608 ≤ V / B24 ^ (n - 1)) (hmn : m + n = o) (ho : o < 2 ^ 40)
    (hF0:0<F) (hF:F<16777216) (hV0:0<V) (hR:R.c (.tup [z1X (W0/V),z1X (W0%V/F)])):
    ∀jj:Nat,jj≤m→ ∀Q W:Nat,Q*B24^jj*V+W=W0→W<V*B24^jj→Q*B24^jj<B24^m→
     Ok P 253 (loopHead P 253 0) (dS0 n o m ((jj:Int)-1) (F:Int) ws (Q7 B24 o W) (Q7 B24 m (Q*B24^jj))) R:=by
 have hV:=zpD n ws V hws hwd hwv
 intro jj
 induction jj with
 |zero=>
  intro _ Q W h1 h2 h3
  rw[Nat.pow_zero,Nat.mul_one]at h1 h2 h3 ⊢
  have hWo:W<B24^o:=by
   have:B24^n≤B24^o:=Nat.pow_le_pow_right (by decide) (by omega)
   omega
  have l1:(Q7 B24 o W).take o=Q7 B24 o W:=List.take_of_length_le (by rw[j8];exact Nat.le_refl _)
  have l2:(Q7 B24 m Q).take m=Q7 B24 m Q:=List.take_of_length_le (by rw[j8];exact Nat.le_refl _)
  have v1:val 16777216 (Q7 B24 o W)=W:=by rw[z06,Nat.mod_eq_of_lt hWo]
  have v2:val 16777216 (Q7 B24 m Q)=Q:=by rw[z06,Nat.mod_eq_of_lt h3]
  have v3:val 16777216 (dig 16777216 W)=W:=Q6 (by decide) W
  have hdl:(dig 16777216 W).length≤o:=Q9 (by decide) hWo
  have o1:=V8 (Q7 B24 o W)
  have o2:=V8 (Q7 B24 m Q)
  rw[j8]at o1 o2
  have e:(((0:Nat):Int)-1)= -1:=rfl
  rw[e]
  refine zoh n o m F ws (Q7 B24 o W) (Q7 B24 m Q) (by rw[l1,j8]) (by rw[l1];exact U1 (by decide) _ _) (by rw[l1,j8];omega) rfl hF0 hF (by rw[l1,v1];omega) (by rw[l1,v1];exact Y5 (by decide) _)
   (by rw[l2,j8]) (by rw[l2];exact U1 (by decide) _ _) (by rw[l2,j8];omega) (by rw[l1];exact o1) (by rw[l2];exact o2) ?_
  rw[l1,l2,v1,v2,v3]
  have d1:W0/V=Q:=by rw[←h1,Nat.mul_comm Q V,Nat.mul_add_div hV0,Nat.div_eq_of_lt h2,Nat.add_zero]
  have d2:W0%V=W:=by rw[←h1,Nat.mul_comm Q V,Nat.mul_add_mod,Nat.mod_eq_of_lt h2]
  rw[d1,d2]at hR
  exact hR
 |succ j ih=>
  intro hj Q W h1 h2 h3
  obtain⟨q1,q2,q3⟩:=zcn (by decide:0<B24) Q W V W0 j h1 h2 hV0
  have e:(((j+1:Nat):Int)-1)=(j:Int):=by omega
  rw[e]
  refine zjv hn n o m j (F:Int) ws _ V W _ rfl hn2 hws hwd hwv hV0 (by omega) (by omega) h2 (by omega) (j8 ..).symm ?_ hVt
  rw[zgE (by decide) m j Q _ (by omega) q1]
  refine ih (by omega) _ _ q2 q3 ?_
  have hq:(Q*B24+W/B24^j/V)*B24^j<(Q+1)*B24^(j+1):=by
   rw[Nat.pow_succ,Nat.mul_comm (B24^j) B24,←Nat.mul_assoc]
   refine Nat.mul_lt_mul_of_pos_right ?_ (Nat.pow_pos (by decide))
   rw[Nat.add_mul,Nat.one_mul];omega
  refine Nat.lt_of_lt_of_le hq ?_
  obtain⟨r,rfl⟩: ∃r,m=r+(j+1):=⟨m-(j+1),by omega⟩
  rw[Nat.pow_add B24 r]at h3 ⊢
  exact Nat.mul_le_mul_right _ (Nat.lt_of_mul_lt_mul_right h3)
theorem zck{D:Nat}(h:D≠0):B24^((dig B24 D).length-1)≤D:=by
 rcases Nat.lt_or_ge D (B24^((dig B24 D).length-1))with h1|h1
 · have h2:=Q9 (by decide) h1
   have h3:(dig B24 D).length≠0:=by rw[Ne,Y2 (by decide)];exact h
   omega
 · exact h1
theorem zgh{t:Nat}(ht:t<16777216):IntKind.i64.wrap (Int.tdiv (16777216:Int) (IntKind.i64.wrap ((t:Int)+(1:Int))))=((16777216/(t+1):Nat):Int):=by
 rw[show IntKind.i64.wrap ((t:Int)+1)=((t+1:Nat):Int) by rw[w64 (by omega)];omega,show(16777216:Int)=((16777216:Nat):Int)from rfl,z7p]
 have:=Nat.div_le_self 16777216 (t+1)
 exact z90 (by omega)
theorem zcI {D t : Nat} (hD : D ≠ 0) (hm : 2 ≤ (dig B24 D).length) (ht : t = D / B24 ^ ((dig B24 D).length - 1)) :
    t<16777216∧0<16777216/(t+1)∧16777216/(t+1)<16777216∧(dig B24 (D*(16777216/(t+1)))).length=(dig B24 D).length∧8388608≤D*(16777216/(t+1))/B24^((dig B24 D).length-1):=by
 have hlo:=zck hD
 have hhi:=J9 (b:=B24) (by decide) D
 have hp:0<B24^((dig B24 D).length-1):=Nat.pow_pos (by decide)
 have ep:B24^(dig B24 D).length=B24^((dig B24 D).length-1)*B24:=by
  rw[←Nat.pow_succ];congr 1;omega
 have t0:0<t:=by rw[ht];exact Nat.div_pos hlo hp
 have t1:t<B24:=by rw[ht,Nat.div_lt_iff_lt_mul hp,Nat.mul_comm,←ep];exact hhi
 obtain⟨f1,f2⟩:=R24.factor_top t0 t1
 have hF0:0<16777216/(t+1):=Nat.div_pos t1 (by omega)
 have hF1:16777216/(t+1)<16777216:=Nat.div_lt_self (by decide) (by omega)
 have hd1:t*B24^((dig B24 D).length-1)≤D:=by rw[ht];exact Nat.div_mul_le_self _ _
 have hd2:D<(t+1)*B24^((dig B24 D).length-1):=by
  have h1:=Nat.mod_add_div D (B24^((dig B24 D).length-1))
  have h2:=Nat.mod_lt D hp
  rw[←ht]at h1
  rw[Nat.add_mul,Nat.one_mul,Nat.mul_comm t]
  omega
 refine⟨t1,hF0,hF1,?_,?_⟩
 · refine Nat.le_antisymm (Q9 (by decide) ?_) ?_
   · rw[ep]
     calc D*(16777216/(t+1))<(t+1)*B24^((dig B24 D).length-1)*(16777216/(t+1)):=Nat.mul_lt_mul_of_pos_right hd2 hF0
      _=B24^((dig B24 D).length-1)*((t+1)*(16777216/(t+1))):=by rw[Nat.mul_comm (t+1),Nat.mul_assoc]
      _≤B24^((dig B24 D).length-1)*B24:=Nat.mul_le_mul_left _ f2
   · have h1:D≤D*(16777216/(t+1)):=Nat.le_mul_of_pos_right _ hF0
     exact Z4 (by decide) h1
 · rw[Nat.le_div_iff_mul_le hp]
   calc 8388608*B24^((dig B24 D).length-1)≤t*(16777216/(t+1))*B24^((dig B24 D).length-1):=Nat.mul_le_mul_right _ f1
    _=t*B24^((dig B24 D).length-1)*(16777216/(t+1)):=by rw[Nat.mul_assoc,Nat.mul_comm (16777216/(t+1)),←Nat.mul_assoc]
    _≤D*(16777216/(t+1)):=Nat.mul_le_mul_right _ hd1
end Go.Fw
open Go IntKind
namespace Go.Fw
set_option maxRecDepth 100000
theorem zo2(j1 n1 j2 n2:Nat)(t t':Int)(xs ys:List Nat)(h1:(z1j (val 16777216 (List.take n1 (List.drop j1 xs))) (val 16777216 (List.take n2 (List.drop j2 ys)))==0)=true)(s3_0:n1=(List.take n1 (List.drop j1 xs)).length)(s3_1:n2=(List.take n2 (List.drop j2 ys)).length)(s3_2:List.take n1 (List.drop j1 xs)=dig 16777216 (val 16777216 (List.take n1 (List.drop j1 xs))))(s3_3:List.take n2 (List.drop j2 ys)=dig 16777216 (val 16777216 (List.take n2 (List.drop j2 ys))))(s3_4:(List.take n1 (List.drop j1 xs)).length<2^40)(s3_5:(List.take n2 (List.drop j2 ys)).length<2^40)(o1:List.take (n1*1) (List.drop j1 (own (j3 xs)))=List.map MV.cv (j3 (List.take n1 (List.drop j1 xs))))(o2:List.take (n2*1) (List.drop j2 (own (j3 ys)))=List.map MV.cv (j3 (List.take n2 (List.drop j2 ys)))){R:Goal}(hn:J0 R.n [0,1]=true)(hR:Ok P 184 (loopHead P 184 2) ⟨J3 111 [(4,.ptr 0 0),(9,.sl (0+1) j1 n1 1),(11,.cv (.lit (.int .i64 t))),(12,.cv (.lit (.int .i64 t'))),(14,.cv (.lit (.int .i64 0)))],[some [.cv (.lit (.bool false)),.cv (.lit (.string {data:= #[]}))],some (own (j3 xs))]⟩ R):Ok P 184 (loopHead P 184 1) ({tm:=J3 111 [(4,.ptr 0 0),(9,.sl 1 j1 n1 1),(10,.sl 2 j2 n2 1),(11,.cv (j6 t)),(12,.cv (j6 t'))],hp:=[some [.cv (.lit (.bool false)),.cv (X3 {data:= #[]})],some (own (j3 xs)),some (own (j3 ys))]}) R:=
 z0D (keep:=[4,9,11,12,14]) (σ:=[0,1]) (.c (rorder_v (n1) (n2) (List.take n1 (List.drop j1 xs)) (List.take n2 (List.drop j2 ys)) s3_0 s3_1 s3_2 s3_3 s3_4 s3_5) (.c o1 (.c o2 (.o 3 (.k (.lit (.int .i64 (z1j (val 16777216 (List.take n1 (List.drop j1 xs))) (val 16777216 (List.take n2 (List.drop j2 ys)))))) [j3 (List.take n1 (List.drop j1 xs)),j3 (List.take n2 (List.drop j2 ys))]) (.b 7 h1 (.o 9 .stop .nil)))))) (by kernel_rfl) rfl hn hR (.cons (by simp[CvL]) (.cons (j9 _) .nil))
theorem zlX(j1 n1 j2 n2:Nat)(t t':Int)(xs ys:List Nat)(h1:(z1j (val 16777216 (List.take n1 (List.drop j1 xs))) (val 16777216 (List.take n2 (List.drop j2 ys)))==0)=false)(h2:decide (z1j (val 16777216 (List.take n1 (List.drop j1 xs))) (val 16777216 (List.take n2 (List.drop j2 ys)))>0)=true)(s3_0:n1=(List.take n1 (List.drop j1 xs)).length)(s3_1:n2=(List.take n2 (List.drop j2 ys)).length)(s3_2:List.take n1 (List.drop j1 xs)=dig 16777216 (val 16777216 (List.take n1 (List.drop j1 xs))))(s3_3:List.take n2 (List.drop j2 ys)=dig 16777216 (val 16777216 (List.take n2 (List.drop j2 ys))))(s3_4:(List.take n1 (List.drop j1 xs)).length<2^40)(s3_5:(List.take n2 (List.drop j2 ys)).length<2^40)(s17_0:n1=(List.take n1 (List.drop j1 xs)).length)(s17_1:n2=(List.take n2 (List.drop j2 ys)).length)(s17_2:List.take n1 (List.drop j1 xs)=dig 16777216 (val 16777216 (List.take n1 (List.drop j1 xs))))(s17_3:List.take n2 (List.drop j2 ys)=dig 16777216 (val 16777216 (List.take n2 (List.drop j2 ys))))(s17_4:(List.take n1 (List.drop j1 xs)).length<2^40)(s17_5:val 16777216 (List.take n2 (List.drop j2 ys))≤val 16777216 (List.take n1 (List.drop j1 xs)))(s18_0:val 16777216 (List.take n1 (List.drop j1 xs))-val 16777216 (List.take n2 (List.drop j2 ys))≠0)(s18_1:(dig 16777216 (val 16777216 (List.take n1 (List.drop j1 xs))-val 16777216 (List.take n2 (List.drop j2 ys)))).length≤n1)(s18_2:n1<2^40)(o1:List.take (n1*1) (List.drop j1 (own (j3 xs)))=List.map MV.cv (j3 (List.take n1 (List.drop j1 xs))))(o2:List.take (n2*1) (List.drop j2 (own (j3 ys)))=List.map MV.cv (j3 (List.take n2 (List.drop j2 ys))))(o6:List.take (n1*1) (List.drop j1 (own (j3 xs)))=List.map MV.cv (j3 (List.take n1 (List.drop j1 xs))))(o7:List.take (n2*1) (List.drop j2 (own (j3 ys)))=List.map MV.cv (j3 (List.take n2 (List.drop j2 ys))))(o9:BlksCv [some (own (j3 (Q7 16777216 n1 (val 16777216 (List.take n1 (List.drop j1 xs))-val 16777216 (List.take n2 (List.drop j2 ys)))))),some (own (j3 (X1 (Q7 16777216 n1 (val 16777216 (List.take n1 (List.drop j1 xs))-val 16777216 (List.take n2 (List.drop j2 ys)))) (v2 (val 16777216 (List.take n1 (List.drop j1 xs))-val 16777216 (List.take n2 (List.drop j2 ys)))/24) ((dig 16777216 (val 16777216 (List.take n1 (List.drop j1 xs))-val 16777216 (List.take n2 (List.drop j2 ys)))).length-v2 (val 16777216 (List.take n1 (List.drop j1 xs))-val 16777216 (List.take n2 (List.drop j2 ys)))/24) (z3n (val 16777216 (List.take n1 (List.drop j1 xs))-val 16777216 (List.take n2 (List.drop j2 ys)))))))]){R:Goal}(hn:J0 R.n [0,2,4]=true)(hR:Ok P 184 (loopHead P 184 1) ⟨J3 111 [(4,.ptr 0 0),(9,.sl (0+1) j2 n2 1),(10,.sl (0+1+1) (v2 (val 16777216 (List.take n1 (List.drop j1 xs))-val 16777216 (List.take n2 (List.drop j2 ys)))/24) (dig 16777216 (z3n (val 16777216 (List.take n1 (List.drop j1 xs))-val 16777216 (List.take n2 (List.drop j2 ys))))).length 1),(11,.cv (.lit (.int .i64 t))),(12,.cv (.lit (.int .i64 t')))],[some [.cv (.lit (.bool false)),.cv (.lit (.string {data:= #[]}))],some (own (j3 ys)),some (own (j3 (X1 (Q7 16777216 n1 (val 16777216 (List.take n1 (List.drop j1 xs))-val 16777216 (List.take n2 (List.drop j2 ys)))) (v2 (val 16777216 (List.take n1 (List.drop j1 xs))-val 16777216 (List.take n2 (List.drop j2 ys)))/24) ((dig 16777216 (val 16777216 (List.take n1 (List.drop j1 xs))-val 16777216 (List.take n2 (List.drop j2 ys)))).length-v2 (val 16777216 (List.take n1 (List.drop j1 xs))-val 16777216 (List.take n2 (List.drop j2 ys)))/24) (z3n (val 16777216 (List.take n1 (List.drop j1 xs))-val 16777216 (List.take n2 (List.drop j2 ys)))))))]⟩ R):Ok P 184 (loopHead P 184 1) ({tm:=J3 111 [(4,.ptr 0 0),(9,.sl 1 j1 n1 1),(10,.sl 2 j2 n2 1),(11,.cv (j6 t)),(12,.cv (j6 t'))],hp:=[some [.cv (.lit (.bool false)),.cv (X3 {data:= #[]})],some (own (j3 xs)),some (own (j3 ys))]}) R:=
 z0D (keep:=[4,9,10,11,12]) (σ:=[0,2,4]) (.c (rorder_v (n1) (n2) (List.take n1 (List.drop j1 xs)) (List.take n2 (List.drop j2 ys)) s3_0 s3_1 s3_2 s3_3 s3_4 s3_5) (.c o1 (.c o2 (.o 3 (.k (.lit (.int .i64 (z1j (val 16777216 (List.take n1 (List.drop j1 xs))) (val 16777216 (List.take n2 (List.drop j2 ys)))))) [j3 (List.take n1 (List.drop j1 xs)),j3 (List.take n2 (List.drop j2 ys))]) (.b 7 h1 (.b 10 h2 (.c (z9P (n1) (n2) (List.take n1 (List.drop j1 xs)) (List.take n2 (List.drop j2 ys)) s17_0 s17_1 s17_2 s17_3 s17_4 s17_5) (.c o6 (.c o7 (.c (zgT (n1) (val 16777216 (List.take n1 (List.drop j1 xs))-val 16777216 (List.take n2 (List.drop j2 ys))) s18_0 s18_1 s18_2) (.c o9 (.o 17 (.g (.sl 0 0 (dig 16777216 (val 16777216 (List.take n1 (List.drop j1 xs))-val 16777216 (List.take n2 (List.drop j2 ys)))).length 1) (j3 (Q7 B24 n1 (val B24 (List.take n1 (List.drop j1 xs))-val B24 (List.take n2 (List.drop j2 ys))))) [j3 (List.take n1 (List.drop j1 xs)),j3 (List.take n2 (List.drop j2 ys))]) (.o 18 (.m [4] (.tup [.sl 0 (v2 (val 16777216 (List.take n1 (List.drop j1 xs))-val 16777216 (List.take n2 (List.drop j2 ys)))/24) (dig 16777216 (z3n (val 16777216 (List.take n1 (List.drop j1 xs))-val 16777216 (List.take n2 (List.drop j2 ys))))).length 1,.cv (.lit (.int .i64 (↑(v2 (val 16777216 (List.take n1 (List.drop j1 xs))-val 16777216 (List.take n2 (List.drop j2 ys)))):Int)))]) [some (own (j3 (X1 (Q7 B24 n1 (val 16777216 (List.take n1 (List.drop j1 xs))-val 16777216 (List.take n2 (List.drop j2 ys)))) (v2 (val 16777216 (List.take n1 (List.drop j1 xs))-val 16777216 (List.take n2 (List.drop j2 ys)))/24) ((dig B24 (val 16777216 (List.take n1 (List.drop j1 xs))-val 16777216 (List.take n2 (List.drop j2 ys)))).length-v2 (val 16777216 (List.take n1 (List.drop j1 xs))-val 16777216 (List.take n2 (List.drop j2 ys)))/24) (z3n (val 16777216 (List.take n1 (List.drop j1 xs))-val 16777216 (List.take n2 (List.drop j2 ys)))))))]) (.o 23 .stop .nil)))))))))))))) (by kernel_rfl) rfl hn hR (.cons (by simp[CvL]) (.cons (j9 _) (.cons (j9 _) .nil)))
theorem zn5(j1 n1 j2 n2:Nat)(t t':Int)(xs ys:List Nat)(h1:(z1j (val 16777216 (List.take n1 (List.drop j1 xs))) (val 16777216 (List.take n2 (List.drop j2 ys)))==0)=false)(h2:decide (z1j (val 16777216 (List.take n1 (List.drop j1 xs))) (val 16777216 (List.take n2 (List.drop j2 ys)))>0)=false)(s3_0:n1=(List.take n1 (List.drop j1 xs)).length)(s3_1:n2=(List.take n2 (List.drop j2 ys)).length)(s3_2:List.take n1 (List.drop j1 xs)=dig 16777216 (val 16777216 (List.take n1 (List.drop j1 xs))))(s3_3:List.take n2 (List.drop j2 ys)=dig 16777216 (val 16777216 (List.take n2 (List.drop j2 ys))))(s3_4:(List.take n1 (List.drop j1 xs)).length<2^40)(s3_5:(List.take n2 (List.drop j2 ys)).length<2^40)(s13_0:n2=(List.take n2 (List.drop j2 ys)).length)(s13_1:n1=(List.take n1 (List.drop j1 xs)).length)(s13_2:List.take n2 (List.drop j2 ys)=dig 16777216 (val 16777216 (List.take n2 (List.drop j2 ys))))(s13_3:List.take n1 (List.drop j1 xs)=dig 16777216 (val 16777216 (List.take n1 (List.drop j1 xs))))(s13_4:(List.take n2 (List.drop j2 ys)).length<2^40)(s13_5:val 16777216 (List.take n1 (List.drop j1 xs))≤val 16777216 (List.take n2 (List.drop j2 ys)))(s14_0:val 16777216 (List.take n2 (List.drop j2 ys))-val 16777216 (List.take n1 (List.drop j1 xs))≠0)(s14_1:(dig 16777216 (val 16777216 (List.take n2 (List.drop j2 ys))-val 16777216 (List.take n1 (List.drop j1 xs)))).length≤n2)(s14_2:n2<2^40)(o1:List.take (n1*1) (List.drop j1 (own (j3 xs)))=List.map MV.cv (j3 (List.take n1 (List.drop j1 xs))))(o2 o6:List.take (n2*1) (List.drop j2 (own (j3 ys)))=List.map MV.cv (j3 (List.take n2 (List.drop j2 ys))))(o7:List.take (n1*1) (List.drop j1 (own (j3 xs)))=List.map MV.cv (j3 (List.take n1 (List.drop j1 xs))))(o9:BlksCv [some (own (j3 (Q7 16777216 n2 (val 16777216 (List.take n2 (List.drop j2 ys))-val 16777216 (List.take n1 (List.drop j1 xs)))))),some (own (j3 (X1 (Q7 16777216 n2 (val 16777216 (List.take n2 (List.drop j2 ys))-val 16777216 (List.take n1 (List.drop j1 xs)))) (v2 (val 16777216 (List.take n2 (List.drop j2 ys))-val 16777216 (List.take n1 (List.drop j1 xs)))/24) ((dig 16777216 (val 16777216 (List.take n2 (List.drop j2 ys))-val 16777216 (List.take n1 (List.drop j1 xs)))).length-v2 (val 16777216 (List.take n2 (List.drop j2 ys))-val 16777216 (List.take n1 (List.drop j1 xs)))/24) (z3n (val 16777216 (List.take n2 (List.drop j2 ys))-val 16777216 (List.take n1 (List.drop j1 xs)))))))]){R:Goal}(hn:J0 R.n [0,1,4]=true)(hR:Ok P 184 (loopHead P 184 1) ⟨J3 111 [(4,.ptr 0 0),(9,.sl (0+1) j1 n1 1),(10,.sl (0+1+1) (v2 (val 16777216 (List.take n2 (List.drop j2 ys))-val 16777216 (List.take n1 (List.drop j1 xs)))/24) (dig 16777216 (z3n (val 16777216 (List.take n2 (List.drop j2 ys))-val 16777216 (List.take n1 (List.drop j1 xs))))).length 1),(11,.cv (.lit (.int .i64 t))),(12,.cv (.lit (.int .i64 t')))],[some [.cv (.lit (.bool false)),.cv (.lit (.string {data:= #[]}))],some (own (j3 xs)),some (own (j3 (X1 (Q7 16777216 n2 (val 16777216 (List.take n2 (List.drop j2 ys))-val 16777216 (List.take n1 (List.drop j1 xs)))) (v2 (val 16777216 (List.take n2 (List.drop j2 ys))-val 16777216 (List.take n1 (List.drop j1 xs)))/24) ((dig 16777216 (val 16777216 (List.take n2 (List.drop j2 ys))-val 16777216 (List.take n1 (List.drop j1 xs)))).length-v2 (val 16777216 (List.take n2 (List.drop j2 ys))-val 16777216 (List.take n1 (List.drop j1 xs)))/24) (z3n (val 16777216 (List.take n2 (List.drop j2 ys))-val 16777216 (List.take n1 (List.drop j1 xs)))))))]⟩ R):Ok P 184 (loopHead P 184 1) ({tm:=J3 111 [(4,.ptr 0 0),(9,.sl 1 j1 n1 1),(10,.sl 2 j2 n2 1),(11,.cv (j6 t)),(12,.cv (j6 t'))],hp:=[some [.cv (.lit (.bool false)),.cv (X3 {data:= #[]})],some (own (j3 xs)),some (own (j3 ys))]}) R:=
 z0D (keep:=[4,9,10,11,12]) (σ:=[0,1,4]) (.c (rorder_v (n1) (n2) (List.take n1 (List.drop j1 xs)) (List.take n2 (List.drop j2 ys)) s3_0 s3_1 s3_2 s3_3 s3_4 s3_5) (.c o1 (.c o2 (.o 3 (.k (.lit (.int .i64 (z1j (val 16777216 (List.take n1 (List.drop j1 xs))) (val 16777216 (List.take n2 (List.drop j2 ys)))))) [j3 (List.take n1 (List.drop j1 xs)),j3 (List.take n2 (List.drop j2 ys))]) (.b 7 h1 (.b 10 h2 (.c (z9P (n2) (n1) (List.take n2 (List.drop j2 ys)) (List.take n1 (List.drop j1 xs)) s13_0 s13_1 s13_2 s13_3 s13_4 s13_5) (.c o6 (.c o7 (.c (zgT (n2) (val 16777216 (List.take n2 (List.drop j2 ys))-val 16777216 (List.take n1 (List.drop j1 xs))) s14_0 s14_1 s14_2) (.c o9 (.o 13 (.g (.sl 0 0 (dig 16777216 (val 16777216 (List.take n2 (List.drop j2 ys))-val 16777216 (List.take n1 (List.drop j1 xs)))).length 1) (j3 (Q7 B24 n2 (val B24 (List.take n2 (List.drop j2 ys))-val B24 (List.take n1 (List.drop j1 xs))))) [j3 (List.take n2 (List.drop j2 ys)),j3 (List.take n1 (List.drop j1 xs))]) (.o 14 (.m [4] (.tup [.sl 0 (v2 (val 16777216 (List.take n2 (List.drop j2 ys))-val 16777216 (List.take n1 (List.drop j1 xs)))/24) (dig 16777216 (z3n (val 16777216 (List.take n2 (List.drop j2 ys))-val 16777216 (List.take n1 (List.drop j1 xs))))).length 1,.cv (.lit (.int .i64 (↑(v2 (val 16777216 (List.take n2 (List.drop j2 ys))-val 16777216 (List.take n1 (List.drop j1 xs)))):Int)))]) [some (own (j3 (X1 (Q7 B24 n2 (val 16777216 (List.take n2 (List.drop j2 ys))-val 16777216 (List.take n1 (List.drop j1 xs)))) (v2 (val 16777216 (List.take n2 (List.drop j2 ys))-val 16777216 (List.take n1 (List.drop j1 xs)))/24) ((dig B24 (val 16777216 (List.take n2 (List.drop j2 ys))-val 16777216 (List.take n1 (List.drop j1 xs)))).length-v2 (val 16777216 (List.take n2 (List.drop j2 ys))-val 16777216 (List.take n1 (List.drop j1 xs)))/24) (z3n (val 16777216 (List.take n2 (List.drop j2 ys))-val 16777216 (List.take n1 (List.drop j1 xs)))))))]) (.o 19 .stop .nil)))))))))))))) (by kernel_rfl) rfl hn hR (.cons (by simp[CvL]) (.cons (j9 _) (.cons (j9 _) .nil)))
end Go.Fw
open Go IntKind
namespace Go.Fw
set_option maxRecDepth 100000
theorem zma(n:Nat)(d:Int)(xs:List Nat)(o0:(0:Int)≤i64.wrap ((n:Int)+1)∧i64.wrap ((n:Int)+1)≤i64.wrap ((n:Int)+1)∧(8:Int)*i64.wrap ((n:Int)+1)≤140737488355328∧i64.wrap ((n:Int)+1)≤4611686018427387904∧1=1)(o1:CvL (List.replicate ((i64.wrap ((n:Int)+1)).toNat*1) (.cv (.lit (.int .i64 0))))){R:CV→Prop}(hR:Ok P 232 (loopHead P 232 0) ⟨J3 40 [(0,.cv (.lst n (j3 xs))),(5,.sl 0 0 (i64.wrap ((n:Int)+1)).toNat 1),(6,.cv (.lit (.int .i64 d))),(7,.cv (.lit (.int .i64 0)))],[some (List.replicate ((i64.wrap ((n:Int)+1)).toNat*1) (.cv (.lit (.int .i64 0))))]⟩ (.of R)):W6 P 232 [.lst n (j3 xs),.lit (.int .i64 d)] R:=
 Y4 (keep:=[0,5,6,7]) (σ:=[0]) (.c o0 (.o 9 .stop .nil)) (by kernel_rfl) rfl hR (.cons o1 .nil)
theorem zk0(n o c i:Nat)(xs zs:List Nat)(h1:decide ((i:Int)<n)=true)(o1:(0:Int)≤i∧(i:Int)<n)(o2:(j3 xs)[(i:Int).toNat*1]?=some (.lit (.int .i64 ↑(xs.getD ((i:Int).toNat*1) 0))))(o5:(0:Int)≤i∧(i:Int)<o)(o6:0+(i:Int).toNat*1+1≤(own (j3 zs)).length)(o8:CvL (j4 (own (j3 zs)) (0+(i:Int).toNat*1) [.cv (.lit (.int .i64 ((i64.wrap ((c:Int)+i64.wrap ((2:Int)*(↑(xs.getD ((i:Int).toNat*1) 0):Int)))).tmod 16777216)))])){R:Goal}(hn:J0 R.n [0]=true)(hR:Ok P 232 (loopHead P 232 0) ⟨J3 40 [(0,.cv (.lst n (j3 xs))),(5,.sl 0 0 o 1),(6,.cv (.lit (.int .i64 (i64.wrap ((i64.wrap ((c:Int)+i64.wrap ((2:Int)*(↑(xs.getD ((i:Int).toNat*1) 0):Int)))).tdiv 16777216))))),(7,.cv (.lit (.int .i64 (i64.wrap ((i:Int)+1)))))],[some (j4 (own (j3 zs)) (0+(i:Int).toNat*1) [.cv (.lit (.int .i64 ((i64.wrap ((c:Int)+i64.wrap ((2:Int)*(↑(xs.getD ((i:Int).toNat*1) 0):Int)))).tmod 16777216)))])]⟩ R):Ok P 232 (loopHead P 232 0) ⟨J3 40 [(0,.cv (.lst n (j3 xs))),(5,.sl 0 0 o 1),(6,.cv (j6 (c:Int))),(7,.cv (j6 (i:Int)))],[some (own (j3 zs))]⟩ R:=
 z0D (keep:=[0,5,6,7]) (σ:=[0]) (.b 5 h1 (.c o1 (.l 10 o2 (.c (eqn 1) (.c (nz 16777216) (.c o5 (.c o6 (.c (nz 16777216) (.o 26 .stop .nil))))))))) (by kernel_rfl) rfl hn hR (.cons o8 .nil)
theorem zi1(n o c i:Nat)(xs zs:List Nat)(h1:decide ((i:Int)<n)=false)(s13_0:o=(zs.set (0+(n:Int).toNat*1) c).length)(s13_1:Dig 16777216 (zs.set (0+(n:Int).toNat*1) c))(s13_2:(zs.set (0+(n:Int).toNat*1) c).length<2^62)(o1:(0:Int)≤n∧(n:Int)<o)(o2:0+(n:Int).toNat*1+1≤(own (j3 zs)).length)(o4:List.take (o*1) (List.drop 0 (j4 (own (j3 zs)) (0+(n:Int).toNat*1) [.cv (.lit (.int .i64 (c:Int)))]))=List.map MV.cv (j3 (zs.set (0+(n:Int).toNat*1) c))){R:Goal}(hR:R.c (.lst (dig 16777216 (val 16777216 (zs.set (0+(n:Int).toNat*1) c))).length (j3 (dig 16777216 (val 16777216 (zs.set (0+(n:Int).toNat*1) c)))))):Ok P 232 (loopHead P 232 0) ⟨J3 40 [(0,.cv (.lst n (j3 xs))),(5,.sl 0 0 o 1),(6,.cv (j6 (c:Int))),(7,.cv (j6 (i:Int)))],[some (own (j3 zs))]⟩ R:=
 okT (.b 5 h1 (.c o1 (.c o2 (.rs 13 [j3 (zs.set (0+(n:Int).toNat*1) c)] (z0G (o) (zs.set (0+(n:Int).toNat*1) c) s13_0 s13_1 s13_2) (.c o4 .nil))))) (by kernel_rfl) hR
end Go.Fw
