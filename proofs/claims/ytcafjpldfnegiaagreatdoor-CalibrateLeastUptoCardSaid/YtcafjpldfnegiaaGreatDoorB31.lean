/- A part of the proof that the law returns true for every input: an executor for the model's code, and what functions of the program compute. -/
import Derived.Test.YtcafjpldfnegiaaGreatDoorB11
import Derived.Test.YtcafjpldfnegiaaGreatDoorB15
import Derived.Test.YtcafjpldfnegiaaGreatDoorB16
import Derived.Test.YtcafjpldfnegiaaGreatDoorB30
import Derived.KernelRfl
open Go
namespace Go.Fw
set_option maxRecDepth 100000
theorem zaP{B b U Z r x t:Nat}(h:U=b*Z+r)(ht:t=r*B+x):x+B*U=b*(t/b+B*Z)+t%b:=by
 have h1:=Nat.div_add_mod t b
 have e:B*(b*Z+r)=b*(B*Z)+r*B:=by rw[Nat.mul_add,Nat.mul_left_comm,Nat.mul_comm B r]
 rw[h,Nat.mul_add b,e]
 omega
theorem z7p(t b:Nat):(t:Int).tdiv (b:Int)=((t/b:Nat):Int):=rfl
theorem zgd(t b:Nat):(t:Int).tmod (b:Int)=((t%b:Nat):Int):=rfl
theorem zkd{r x b:Nat}(hr:r<b)(hx:x<16777216)(hb:b<16777216):IntKind.i64.wrap (IntKind.i64.wrap ((r:Int)*16777216)+(x:Int))=((r*16777216+x:Nat):Int):=by
 rw[w64 (n:=(r:Int)*16777216) (by omega),w64 (by omega)];omega
theorem z90{t:Nat}(h:t<9223372036854775808):IntKind.i64.wrap (t:Int)=(t:Int):=w64 (by omega)
theorem zhT{r x b:Nat}(hr:r<b)(hx:x<16777216)(hb0:0<b):(r*16777216+x)/b<16777216:=by
 rw[Nat.div_lt_iff_lt_mul hb0]
 have h1:(r+1)*16777216≤b*16777216:=Nat.mul_le_mul_right _ hr
 omega
theorem zb0 {R : Goal} (hn : J0 R.n [0] = true) (us : List Nat) (b : Nat) (hb0 : 0 < b) (hb : b < B24) (hl : us.length < 2 ^ 40) (hx : Dig B24 us) (hR : R.c (.tup [z1X (val B24 us / b), j6 ((val B24 us % b : Nat) : Int)])) :
    ∀(i:Nat) (zs:List Nat) (r:Nat),i≤us.length→zs.length=us.length→Dig B24 zs→r<b→val B24 (us.drop i)=b*val B24 (zs.drop i)+r→
     Ok P 265 (loopHead P 265 0) ⟨J3 38 [(0,.cv (.lst us.length (j3 us))),(1,.cv (j6 (b:Int))),(6,.sl 0 0 us.length 1),(7,.cv (j6 (r:Int))),(8,.cv (j6 ((i:Int)-1)))],[some (own (j3 zs))]⟩ R:=by
 intro i
 induction i with
 |zero=>
  intro zs r hi hz hd hr hv
  refine zhz _ _ _ _ _ _ _ (decide_eq_false (by omega)) hz.symm hd (by omega) (by rw[←hz];exact V8 _) ?_
  rw[List.drop_zero,List.drop_zero]at hv
  have e1:val B24 us/b=val B24 zs:=by rw[hv,Nat.mul_add_div hb0,Nat.div_eq_of_lt hr,Nat.add_zero]
  have e2:val B24 us%b=r:=by rw[hv,Nat.mul_add_mod,Nat.mod_eq_of_lt hr]
  rw[e1,e2]at hR;exact hR
 |succ i ih=>
  intro zs r hi hz hd hr hv
  have e0:((i+1:Nat):Int)-1=(i:Int):=by omega
  have e1:(i:Int).toNat*1=i:=by omega
  have e2:(0:Nat)+i=i:=by omega
  have e3:IntKind.i64.wrap ((i:Int)-1)=(i:Int)-1:=w64 (by omega)
  have dx:=hx.get (by decide) i
  have gx:=Z8 (xs:=us) (i:=(i:Int).toNat*1) (by omega)
  obtain⟨t,ht0⟩: ∃t,t=r*16777216+us.getD i 0:=⟨_,rfl⟩
  have ht:=zkd hr dx hb
  have hq:=zhT hr dx hb0
  rw[←ht0]at ht hq
  have hset:j4 (own (j3 zs)) i [.cv (.lit (.int .i64 ((t/b:Nat):Int)))]=own (j3 (zs.set i (t/b))):=Q8 (by omega)
  rw[e0]
  refine zhu _ _ _ _ _ _ _ (decide_eq_true (by omega)) (by omega) gx (by omega) (by omega) (by rw[e1,e2,J1,Q5];omega) (by omega) (by rw[e1,e2,ht,z7p,z90 (by omega),hset];exact j9 _) hn ?_
  rw[e1,e2,e3,ht,z7p,zgd,z90 (by omega),hset]
  refine ih _ _ (by omega) (by simpa using hz) (hd.set hq _) (Nat.mod_lt _ hb0) ?_
  rw[z4D (by omega),z3G us i]
  exact zaP hv ht0
theorem rshort_v (n : Nat) (us : List Nat) (b : Nat) (hn : n = us.length) (hb0 : 0 < b) (hb : b < B24) (hl : us.length < 2 ^ 40) (hu : Dig B24 us) :
    PCall P 265 [.lst n (j3 us),j6 (b:Int)] (.tup [z1X (val B24 us/b),j6 ((val B24 us%b:Nat):Int)]):=by
 subst hn
 have e1:(us.length:Int).toNat=us.length:=by omega
 have e2:IntKind.i64.wrap ((us.length:Int)-1)=(us.length:Int)-1:=w64 (by omega)
 refine X6 (zlE _ _ _ (by omega) (by rw[V7];exact j9 _) ?_)
 rw[V7,e1,e2,Nat.mul_one]
 exact zb0 (R:= .of fun v=>v= .tup [z1X (val B24 us/b),j6 ((val B24 us%b:Nat):Int)]) rfl us b hb0 hb hl hu rfl us.length (List.replicate us.length 0) 0 (Nat.le_refl _) (by simp) (Dig.replicate (by decide) _) hb0 (by simp[val])
end Go.Fw
open Go
namespace Go.Fw
set_option maxRecDepth 100000
theorem z9V(x:Int)(h:0≤x):j3 [x.toNat]=[j6 x]:=by
 simp only[j3,List.map_cons,List.map_nil,Int.toNat_of_nonneg h]
theorem zei{x:Int}(h:0≤x)(h':x<16777216):Dig B24 [x.toNat]:=by
 intro y hy
 rw[List.mem_singleton]at hy
 simp only[B24];omega
theorem zbZ(b n:Nat):val b [n]=n:=by simp[val]
theorem rtrim_f(x:Int)(h:0≤x)(h':x<16777216):PCall P 234 [.lst 1 [j6 x]] (z1X x.toNat):=by
 have:=z0G 1 [x.toNat] rfl (zei h h') (by simp)
 rwa[z9V x h,zbZ]at this
end Go.Fw
open Go IntKind
namespace Go.Fw
set_option maxRecDepth 100000
theorem zjB(n m:Nat)(us vs:List Nat)(o0:(0:Int)≤i64.wrap ((n:Int)+m)∧i64.wrap ((n:Int)+m)≤i64.wrap ((n:Int)+m)∧(8:Int)*i64.wrap ((n:Int)+m)≤140737488355328∧i64.wrap ((n:Int)+m)≤4611686018427387904∧1=1)(o1:CvL (List.replicate ((i64.wrap ((n:Int)+m)).toNat*1) (.cv (.lit (.int .i64 0))))){Q:MV→List CV→Prop}(hR:Ok P 200 (loopHead P 200 0) ⟨J3 63 [(0,.cv (.lst n (j3 us))),(1,.cv (.lst m (j3 vs))),(5,.sl 0 0 (i64.wrap ((n:Int)+m)).toNat 1),(6,.cv (.lit (.int .i64 0)))],[some (List.replicate ((i64.wrap ((n:Int)+m)).toNat*1) (.cv (.lit (.int .i64 0))))]⟩ (.fresh (z3r Q))):z4s P 200 [.lst n (j3 us),.lst m (j3 vs)] Q:=
 z9H (keep:=[0,1,5,6]) (σ:=[0]) (ors:=[(9,.stop)]) (by kernel_rfl) rfl (.cons o0 (.cons o1 .nil)) hR
theorem zhV(n m o i:Nat)(us vs zs:List Nat)(g1:decide ((i:Int)<n)=false)(s7_0:o=zs.length)(s7_1:zs.length<2^62)(o2:BlksCv [some (own (j3 zs)),some (own (j3 zs))]){R:Goal}(hn:R.Fresh)(hR:R.m (.sl 0 0 (tz zs).length 1) [some (own (j3 zs))]):Ok P 200 (loopHead P 200 0) ⟨J3 63 [(0,.cv (.lst n (j3 us))),(1,.cv (.lst m (j3 vs))),(5,.sl 0 0 o 1),(6,.cv (j6 (i:Int)))],[some (own (j3 zs))]⟩ R:=
 zp6 1 (ors:=[(5,.b false),(7,.m [0] (.sl 0 0 (tz zs).length 1) [some (own (j3 zs))]),(9,.m [0] MV.unk [])]) (by kernel_rfl) (.cons g1 (.cons (z6z (o) (zs) s7_0 s7_1) (.cons o2 (.cons (show CvL (own (j3 zs))from(j9 _)) .nil)))) hn hR
end Go.Fw
open Go
namespace Go.Fw
set_option maxRecDepth 100000
instance DecOneL(l:List MV):Decidable (zbI l):=inferInstanceAs (Decidable (∀m∈l,m.one=true))
theorem zeS (n m : Nat) (us vs : List Nat) (hn : n = us.length) (hm : m = vs.length) (hu : Dig B24 us) (hv : Dig B24 vs) (hl : us.length < 2 ^ 40) (hl' : vs.length < 2 ^ 40) :
    zbb P 200 [.lst n (j3 us),.lst m (j3 vs)] (.sl 0 0 (dig B24 (val B24 us*val B24 vs)).length 1) (j3 (Q7 B24 (n+m) (val B24 us*val B24 vs))):=by
 subst hn hm
 refine⟨?_,z41 _⟩
 have e1:IntKind.i64.wrap ((us.length:Int)+(vs.length:Int))=((us.length+vs.length:Nat):Int):=by rw[w64 (by omega)];omega
 have e2:((us.length+vs.length:Nat):Int).toNat=us.length+vs.length:=by omega
 refine zjB _ _ _ _ (by rw[e1];omega) (by rw[V7];exact j9 _) ?_
 rw[V7,e1,e2,Nat.mul_one]
 refine z8H (R:= .fresh _) rfl us vs (by omega) hu hv (fun zs hz hdz hvz=>?_) _ 0 (List.replicate (us.length+vs.length) 0) rfl (Nat.zero_le _) (by simp) (Dig.replicate (by decide) _) (fun p _=>by simp[List.getD_eq_getElem?_getD,List.getElem?_replicate];split<;>rfl) (by simp[val,z1u])
 refine zhV _ _ _ _ _ _ _ (by simp) hz.symm (by omega) (BlksCv.two (j9 _) (j9 _)) ⟨rfl,rfl⟩ ?_
 have h1:=z4p (by decide:0<B24) zs hdz
 rw[hz,hvz]at h1
 have h2:=z0S (by decide:2≤B24) zs hdz
 rw[hvz]at h2
 refine⟨j3 zs,rfl,?_,?_⟩
 · rw[h2]
 · rw[←h1]
theorem rtimes_h (n : Nat) (us : List Nat) (x : Int) (hn : n = us.length) (hu : Dig B24 us) (hl : us.length < 2 ^ 40) (h : 0 ≤ x) (h' : x < 16777216) :
    zbb P 200 [.lst n (j3 us),.lst 1 [j6 x]] (.sl 0 0 (dig B24 (val B24 us*x.toNat)).length 1) (j3 (Q7 B24 (n+1) (val B24 us*x.toNat))):=by
 have:=zeS n 1 us [x.toNat] hn rfl hu (zei h h') hl (by simp)
 rwa[z9V x h,zbZ]at this
end Go.Fw
open Go IntKind
namespace Go.Fw
set_option maxRecDepth 100000
theorem zkS(n o m j i:Nat)(F g c x:Int)(ws qs:List Nat)(cs:List MV)(g1:decide ((i:Int)<n)=true)(o1:(0:Int)≤i64.wrap ((j:Int)+i)∧i64.wrap ((j:Int)+i)<(o:Int))(o2:cs[0+(i64.wrap ((j:Int)+i)).toNat*1]?=some (.cv (.lit (.int .i64 x))))(o4:(0:Int)≤i∧(i:Int)<n)(o5:(own (j3 ws))[0+(i:Int).toNat*1]?=some (.cv (.lit (.int .i64 ↑(ws.getD (0+(i:Int).toNat*1) 0)))))(o7:(0:Int)≤i64.wrap ((j:Int)+i)∧i64.wrap ((j:Int)+i)<(o:Int))(o8:0+(i64.wrap ((j:Int)+i)).toNat*1+1≤cs.length)(o12:CvL (j4 cs (0+(i64.wrap ((j:Int)+i)).toNat*1) [.cv (.lit (.int .i64 (X2 BinOp.and i64 (i64.wrap (c+i64.wrap (x-i64.wrap (g*(↑(ws.getD (0+(i:Int).toNat*1) 0):Int))))) (16777215:Int))))])){R:Goal}(hn:J0 R.n [0,1,2,3]=true)(hR:Ok P 253 (loopHead P 253 2) ⟨J3 238 [(8,.sl 0 0 1 1),(9,.sl (0+1) 0 n 1),(10,.cv (.lit (.int .i64 (n:Int)))),(11,.sl (0+1+1) 0 o 1),(12,.sl (0+1+1+1) 0 m 1),(13,.cv (.lit (.int .i64 (j:Int)))),(15,.cv (.lit (.int .i64 g))),(16,.cv (.lit (.int .i64 ((i64.wrap (c+i64.wrap (x-i64.wrap (g*(↑(ws.getD (0+(i:Int).toNat*1) 0):Int))))).fdiv 16777216)))),(17,.cv (.lit (.int .i64 (i64.wrap ((i:Int)+1)))))],[some [.cv (.lit (.int .i64 F))],some (own (j3 ws)),some (j4 cs (0+(i64.wrap ((j:Int)+i)).toNat*1) [.cv (.lit (.int .i64 (X2 BinOp.and i64 (i64.wrap (c+i64.wrap (x-i64.wrap (g*(↑(ws.getD (0+(i:Int).toNat*1) 0):Int))))) (16777215:Int))))]),some (own (j3 qs))]⟩ R):Ok P 253 (loopHead P 253 2) ⟨J3 238 [(8,.sl 0 0 1 1),(9,.sl 1 0 n 1),(10,.cv (j6 (n:Int))),(11,.sl 2 0 o 1),(12,.sl 3 0 m 1),(13,.cv (j6 (j:Int))),(15,.cv (j6 g)),(16,.cv (j6 c)),(17,.cv (j6 (i:Int)))],[some [.cv (j6 F)],some (own (j3 ws)),some cs,some (own (j3 qs))]⟩ R:=
 z0D (keep:=[8,9,10,11,12,13,15,16,17]) (σ:=[0,1,2,3]) (.b 4 g1 (.c o1 (.c o2 (.c (eqn 1) (.c o4 (.c o5 (.c (eqn 1) (.c o7 (.c o8 (.c (nn 24) (.o 11 (.e (.cv (j6 x))) (.o 16 (.e (.cv (.lit (.int .i64 ↑(ws.getD (0+(i:Int).toNat*1) 0))))) (.o 35 .stop .nil))))))))))))) (by kernel_rfl) rfl hn hR (.cons (by simp[CvL]) (.cons (j9 _) (.cons o12 (.cons (j9 _) .nil))))
end Go.Fw
open Go IntKind
namespace Go.Fw
set_option maxRecDepth 100000
theorem zmr(n o m j i:Nat)(F g c x:Int)(ws qs:List Nat)(cs:List MV)(g1:decide ((i:Int)<n)=true)(o1:(0:Int)≤i64.wrap ((j:Int)+i)∧i64.wrap ((j:Int)+i)<(o:Int))(o2:cs[0+(i64.wrap ((j:Int)+i)).toNat*1]?=some (.cv (.lit (.int .i64 x))))(o4:(0:Int)≤i∧(i:Int)<n)(o5:(own (j3 ws))[0+(i:Int).toNat*1]?=some (.cv (.lit (.int .i64 ↑(ws.getD (0+(i:Int).toNat*1) 0)))))(o7:(0:Int)≤i64.wrap ((j:Int)+i)∧i64.wrap ((j:Int)+i)<(o:Int))(o8:0+(i64.wrap ((j:Int)+i)).toNat*1+1≤cs.length)(o12:CvL (j4 cs (0+(i64.wrap ((j:Int)+i)).toNat*1) [.cv (.lit (.int .i64 (X2 BinOp.and i64 (i64.wrap (c+i64.wrap (x+(↑(ws.getD (0+(i:Int).toNat*1) 0):Int)))) (16777215:Int))))])){R:Goal}(hn:J0 R.n [0,1,2,3]=true)(hR:Ok P 253 (loopHead P 253 3) ⟨J3 238 [(8,.sl 0 0 1 1),(9,.sl (0+1) 0 n 1),(10,.cv (.lit (.int .i64 (n:Int)))),(11,.sl (0+1+1) 0 o 1),(12,.sl (0+1+1+1) 0 m 1),(13,.cv (.lit (.int .i64 (j:Int)))),(15,.cv (.lit (.int .i64 g))),(16,.cv (.lit (.int .i64 ((i64.wrap (c+i64.wrap (x+(↑(ws.getD (0+(i:Int).toNat*1) 0):Int)))).fdiv 16777216)))),(18,.cv (.lit (.int .i64 (i64.wrap ((i:Int)+1)))))],[some [.cv (.lit (.int .i64 F))],some (own (j3 ws)),some (j4 cs (0+(i64.wrap ((j:Int)+i)).toNat*1) [.cv (.lit (.int .i64 (X2 BinOp.and i64 (i64.wrap (c+i64.wrap (x+(↑(ws.getD (0+(i:Int).toNat*1) 0):Int)))) (16777215:Int))))]),some (own (j3 qs))]⟩ R):Ok P 253 (loopHead P 253 3) ⟨J3 238 [(8,.sl 0 0 1 1),(9,.sl 1 0 n 1),(10,.cv (j6 (n:Int))),(11,.sl 2 0 o 1),(12,.sl 3 0 m 1),(13,.cv (j6 (j:Int))),(15,.cv (j6 g)),(16,.cv (j6 c)),(18,.cv (j6 (i:Int)))],[some [.cv (j6 F)],some (own (j3 ws)),some cs,some (own (j3 qs))]⟩ R:=
 z0D (keep:=[8,9,10,11,12,13,15,16,18]) (σ:=[0,1,2,3]) (.b 4 g1 (.c o1 (.c o2 (.c (eqn 1) (.c o4 (.c o5 (.c (eqn 1) (.c o7 (.c o8 (.c (nn 24) (.o 11 (.e (.cv (j6 x))) (.o 15 (.e (.cv (.lit (.int .i64 ↑(ws.getD (0+(i:Int).toNat*1) 0))))) (.o 33 .stop .nil))))))))))))) (by kernel_rfl) rfl hn hR (.cons (by simp[CvL]) (.cons (j9 _) (.cons o12 (.cons (j9 _) .nil))))
end Go.Fw
open Go
namespace Go.Fw
set_option maxRecDepth 100000
abbrev dS2(n o m j i:Nat)(F g c:Int)(ws qs:List Nat)(cs:List MV):St:=⟨J3 238 [(8,.sl 0 0 1 1),(9,.sl 1 0 n 1),(10,.cv (j6 (n:Int))),(11,.sl 2 0 o 1),(12,.sl 3 0 m 1),(13,.cv (j6 (j:Int))),(15,.cv (j6 g)),(16,.cv (j6 c)),(17,.cv (j6 (i:Int)))],[some [.cv (j6 F)],some (own (j3 ws)),some cs,some (own (j3 qs))]⟩
abbrev dS3(n o m j i:Nat)(F g c:Int)(ws qs:List Nat)(cs:List MV):St:=⟨J3 238 [(8,.sl 0 0 1 1),(9,.sl 1 0 n 1),(10,.cv (j6 (n:Int))),(11,.sl 2 0 o 1),(12,.sl 3 0 m 1),(13,.cv (j6 (j:Int))),(15,.cv (j6 g)),(16,.cv (j6 c)),(18,.cv (j6 (i:Int)))],[some [.cv (j6 F)],some (own (j3 ws)),some cs,some (own (j3 qs))]⟩
section
variable{R:Goal}(hn:J0 R.n [0,1,2,3]=true)(n o m j g:Nat)(F:Int)(ws qs:List Nat)(hws:n≤ws.length)(hwd:Dig B24 ws)(hg:g<16777216)(hjn:j+n<o)(ho:o<2^41)(X0:Int)(tl:Nat→Int)
include hn hws hwd hjn ho
theorem zoR (hg : g < 16777216) (hk : ∀ (zs : List Int) (c : Int), zs.length = o → Low (j + n) zs → (∀ k, j + n ≤ k → zs.getD k 0 = tl k) → z1f (B24 : Nat) zs + c * ((B24 : Nat) : Int) ^ (j + n) = X0 - ((g * val B24 (ws.take n) * B24 ^ j : Nat) : Int) → -16777216 ≤ c ∧ c ≤ 0 →
      Ok P 253 (loopHead P 253 2) (dS2 n o m j n F (g:Int) c ws qs (own (z66 zs))) R):
    ∀(d i:Nat) (zs:List Int) (c:Int),n-i=d→i≤n→zs.length=o→Low (j+n) zs→(∀k,j+n≤k→zs.getD k 0=tl k)→z1f (B24:Nat) zs+c*((B24:Nat):Int)^(j+i)=X0-((g*val B24 (ws.take i)*B24^j:Nat):Int)→ -16777216≤c∧c≤0→
     Ok P 253 (loopHead P 253 2) (dS2 n o m j i F (g:Int) c ws qs (own (z66 zs))) R:=by
 intro d
 induction d with
 |zero=>
  intro i zs c hd hi hz hlo htl hv hc
  have:i=n:=by omega
  subst this
  exact hk zs c hz hlo htl hv hc
 |succ d ih=>
  intro i zs c hd hi hz hlo htl hv hc
  have e1:IntKind.i64.wrap ((j:Int)+(i:Int))=((j+i:Nat):Int):=by rw[w64 (by omega)];omega
  have e2:(0:Nat)+((j+i:Nat):Int).toNat*1=j+i:=by omega
  have e3:IntKind.i64.wrap ((i:Int)+1)=((i+1:Nat):Int):=by rw[w64 (by omega)];omega
  have e4:(0:Nat)+(i:Int).toNat*1=i:=by omega
  have gw:=Y7 (Z8 (xs:=ws) (i:=i) (by omega))
  have gx:=z1g (zs:=zs) (k:=j+i) (by omega)
  have dx:=hlo (j+i) (by omega)
  have dw:ws.getD i 0<16777216:=hwd.get (by decide) i
  obtain⟨s1,s2,s3⟩:=zeG hc dx hg dw
  have hst:=zcz (b:=B24) (i:=i) (j:=j) (by omega) hv
  have hset: ∀d,j4 (own (z66 zs)) (j+i) [.cv (.lit (.int .i64 d))]=own (z66 (zs.set (j+i) d)):=fun d=>z29 (by omega)
  refine zkS n o m j i F g c (zs.getD (j+i) 0) ws qs _ (decide_eq_true (by omega)) (by rw[e1];omega) (by rw[e1,e2];exact gx) (by omega) (by rw[e4];exact gw) (by rw[e1];omega) (by rw[e1,e2,J1,z0E];omega) (by rw[e1,e2,hset];exact j9 _) hn ?_
  rw[e1,e2,e3,e4,s1,znL,zha,hset]
  exact ih (i+1) _ _ (by omega) (by omega) (by rw[List.length_set];exact hz) (hlo.set (by omega) (zpV _))
   (fun k h=>by rw[z1o _ _ _ _ (by omega),if_neg (by omega)];exact htl k h) hst ⟨s2,s3⟩
theorem zlx (G : Int) (hk : ∀ (zs : List Int) (c : Int), zs.length = o → Low (j + n) zs → (∀ k, j + n ≤ k → zs.getD k 0 = tl k) → z1f (B24 : Nat) zs + c * ((B24 : Nat) : Int) ^ (j + n) = X0 + ((val B24 (ws.take n) * B24 ^ j : Nat) : Int) → 0 ≤ c ∧ c ≤ 1 →
      Ok P 253 (loopHead P 253 3) (dS3 n o m j n F G c ws qs (own (z66 zs))) R):
    ∀(d i:Nat) (zs:List Int) (c:Int),n-i=d→i≤n→zs.length=o→Low (j+n) zs→(∀k,j+n≤k→zs.getD k 0=tl k)→z1f (B24:Nat) zs+c*((B24:Nat):Int)^(j+i)=X0+((val B24 (ws.take i)*B24^j:Nat):Int)→0≤c∧c≤1→
     Ok P 253 (loopHead P 253 3) (dS3 n o m j i F G c ws qs (own (z66 zs))) R:=by
 intro d
 induction d with
 |zero=>
  intro i zs c hd hi hz hlo htl hv hc
  have:i=n:=by omega
  subst this
  exact hk zs c hz hlo htl hv hc
 |succ d ih=>
  intro i zs c hd hi hz hlo htl hv hc
  have e1:IntKind.i64.wrap ((j:Int)+(i:Int))=((j+i:Nat):Int):=by rw[w64 (by omega)];omega
  have e2:(0:Nat)+((j+i:Nat):Int).toNat*1=j+i:=by omega
  have e3:IntKind.i64.wrap ((i:Int)+1)=((i+1:Nat):Int):=by rw[w64 (by omega)];omega
  have e4:(0:Nat)+(i:Int).toNat*1=i:=by omega
  have gw:=Y7 (Z8 (xs:=ws) (i:=i) (by omega))
  have gx:=z1g (zs:=zs) (k:=j+i) (by omega)
  have dx:=hlo (j+i) (by omega)
  have dw:ws.getD i 0<16777216:=hwd.get (by decide) i
  obtain⟨s1,s2,s3⟩:=zfQ hc dx dw
  have hst:=zdP (b:=B24) (i:=i) (j:=j) (by omega) hv
  have hset: ∀d,j4 (own (z66 zs)) (j+i) [.cv (.lit (.int .i64 d))]=own (z66 (zs.set (j+i) d)):=fun d=>z29 (by omega)
  refine zmr n o m j i F G c (zs.getD (j+i) 0) ws qs _ (decide_eq_true (by omega)) (by rw[e1];omega) (by rw[e1,e2];exact gx) (by omega) (by rw[e4];exact gw) (by rw[e1];omega) (by rw[e1,e2,J1,z0E];omega) (by rw[e1,e2,hset];exact j9 _) hn ?_
  rw[e1,e2,e3,e4,s1,znL,zha,hset]
  exact ih (i+1) _ _ (by omega) (by omega) (by rw[List.length_set];exact hz) (hlo.set (by omega) (zpV _))
   (fun k h=>by rw[z1o _ _ _ _ (by omega),if_neg (by omega)];exact htl k h) hst ⟨s2,s3⟩
end
end Go.Fw
open Go IntKind
namespace Go.Fw
set_option maxRecDepth 100000
theorem zoc(n o m j:Nat)(F x y z:Int)(ws xs qs:List Nat)(o0:(0:Int)≤i64.wrap ((j:Int)+n)∧i64.wrap ((j:Int)+n)<(o:Int))(o1:(own (j3 xs))[0+(i64.wrap ((j:Int)+n)).toNat*1]?=some (.cv (.lit (.int .i64 x))))(o3:(0:Int)≤i64.wrap (i64.wrap ((j:Int)+n)-1)∧i64.wrap (i64.wrap ((j:Int)+n)-1)<(o:Int))(o4:(own (j3 xs))[0+(i64.wrap (i64.wrap ((j:Int)+n)-1)).toNat*1]?=some (.cv (.lit (.int .i64 y))))(o6:(0:Int)≤i64.wrap ((n:Int)-1)∧i64.wrap ((n:Int)-1)<(n:Int))(o7:(own (j3 ws))[0+(i64.wrap ((n:Int)-1)).toNat*1]?=some (.cv (.lit (.int .i64 z))))(o9:z≠0){R:Goal}(hn:J0 R.n [0,1,2,3]=true)(hR:Ok P 253 (loopHead P 253 1) ⟨J3 238 [(8,.sl 0 0 1 1),(9,.sl (0+1) 0 n 1),(10,.cv (.lit (.int .i64 (n:Int)))),(11,.sl (0+1+1) 0 o 1),(12,.sl (0+1+1+1) 0 m 1),(13,.cv (.lit (.int .i64 (j:Int)))),(14,.cv (.lit (.int .i64 (i64.wrap (i64.wrap (x*16777216)+y))))),(15,.cv (.lit (.int .i64 (if(16777215:Int)<i64.wrap ((i64.wrap (i64.wrap (x*16777216)+y)).tdiv z)then(16777215:Int)else i64.wrap ((i64.wrap (i64.wrap (x*16777216)+y)).tdiv z)))))],[some [.cv (.lit (.int .i64 F))],some (own (j3 ws)),some (own (j3 xs)),some (own (j3 qs))]⟩ R):Ok P 253 (loopHead P 253 0) ⟨J3 238 [(8,.sl 0 0 1 1),(9,.sl 1 0 n 1),(10,.cv (j6 (n:Int))),(11,.sl 2 0 o 1),(12,.sl 3 0 m 1),(13,.cv (j6 (j:Int)))],[some [.cv (j6 F)],some (own (j3 ws)),some (own (j3 xs)),some (own (j3 qs))]⟩ R:=
 z0D (keep:=[8,9,10,11,12,13,14,15]) (σ:=[0,1,2,3]) (.c o0 (.c o1 (.c (eqn 1) (.c o3 (.c o4 (.c (eqn 1) (.c o6 (.c o7 (.c (eqn 1) (.c o9 (.o 9 (.e (.cv (j6 x))) (.o 17 (.e (.cv (j6 y))) (.o 25 (.e (.cv (j6 z))) (.o 29 .stop .nil)))))))))))))) (by kernel_rfl) rfl hn hR (.cons (by simp[CvL]) (.cons (j9 _) (.cons (j9 _) (.cons (j9 _) .nil))))
end Go.Fw
open Go IntKind
namespace Go.Fw
set_option maxRecDepth 100000
theorem zmc(n o m j:Nat)(F t g:Int)(ws xs qs:List Nat)(h1:decide (i64.wrap (g*(↑(ws.getD (0+(i64.wrap ((n:Int)-2)).toNat*1) 0):Int))>i64.wrap (i64.wrap (i64.wrap (t-i64.wrap (g*(↑(ws.getD (0+(i64.wrap ((n:Int)-1)).toNat*1) 0):Int)))*16777216)+(↑(xs.getD (0+(i64.wrap (i64.wrap ((j:Int)+n)-2)).toNat*1) 0):Int)))=true)(h2:decide (i64.wrap (t-i64.wrap (g*(↑(ws.getD (0+(i64.wrap ((n:Int)-1)).toNat*1) 0):Int)))<16777216)=true)(o0:(0:Int)≤i64.wrap ((n:Int)-2)∧i64.wrap ((n:Int)-2)<(n:Int))(o1:(own (j3 ws))[0+(i64.wrap ((n:Int)-2)).toNat*1]?=some (.cv (.lit (.int .i64 (↑(ws.getD (0+(i64.wrap ((n:Int)-2)).toNat*1) 0):Int)))))(o3:(0:Int)≤i64.wrap ((n:Int)-1)∧i64.wrap ((n:Int)-1)<(n:Int))(o4:(own (j3 ws))[0+(i64.wrap ((n:Int)-1)).toNat*1]?=some (.cv (.lit (.int .i64 (↑(ws.getD (0+(i64.wrap ((n:Int)-1)).toNat*1) 0):Int)))))(o6:(0:Int)≤i64.wrap (i64.wrap ((j:Int)+n)-2)∧i64.wrap (i64.wrap ((j:Int)+n)-2)<(o:Int))(o7:(own (j3 xs))[0+(i64.wrap (i64.wrap ((j:Int)+n)-2)).toNat*1]?=some (.cv (.lit (.int .i64 (↑(xs.getD (0+(i64.wrap (i64.wrap ((j:Int)+n)-2)).toNat*1) 0):Int)))))(o10:(0:Int)≤i64.wrap ((n:Int)-1)∧i64.wrap ((n:Int)-1)<(n:Int))(o11:(own (j3 ws))[0+(i64.wrap ((n:Int)-1)).toNat*1]?=some (.cv (.lit (.int .i64 (↑(ws.getD (0+(i64.wrap ((n:Int)-1)).toNat*1) 0):Int))))){R:Goal}(hn:J0 R.n [0,1,2,3]=true)(hR:Ok P 253 (loopHead P 253 1) ⟨J3 238 [(8,.sl 0 0 1 1),(9,.sl (0+1) 0 n 1),(10,.cv (.lit (.int .i64 (n:Int)))),(11,.sl (0+1+1) 0 o 1),(12,.sl (0+1+1+1) 0 m 1),(13,.cv (.lit (.int .i64 (j:Int)))),(14,.cv (.lit (.int .i64 t))),(15,.cv (.lit (.int .i64 (i64.wrap (g-1)))))],[some [.cv (.lit (.int .i64 F))],some (own (j3 ws)),some (own (j3 xs)),some (own (j3 qs))]⟩ R):Ok P 253 (loopHead P 253 1) ⟨J3 238 [(8,.sl 0 0 1 1),(9,.sl 1 0 n 1),(10,.cv (j6 (n:Int))),(11,.sl 2 0 o 1),(12,.sl 3 0 m 1),(13,.cv (j6 (j:Int))),(14,.cv (j6 t)),(15,.cv (j6 g))],[some [.cv (j6 F)],some (own (j3 ws)),some (own (j3 xs)),some (own (j3 qs))]⟩ R:=
 z0D (keep:=[8,9,10,11,12,13,14,15]) (σ:=[0,1,2,3]) (.c o0 (.e 6 o1 (.c (eqn 1) (.c o3 (.e 14 o4 (.c (eqn 1) (.c o6 (.e 24 o7 (.c (eqn 1) (.b 27 h1 (.c o10 (.e 34 o11 (.c (eqn 1) (.b 39 h2 (.o 43 .stop .nil))))))))))))))) (by kernel_rfl) rfl hn hR (.cons (by simp[CvL]) (.cons (j9 _) (.cons (j9 _) (.cons (j9 _) .nil))))
theorem znB(n o m j:Nat)(F t g:Int)(ws xs qs:List Nat)(h1:decide (i64.wrap (g*(↑(ws.getD (0+(i64.wrap ((n:Int)-2)).toNat*1) 0):Int))>i64.wrap (i64.wrap (i64.wrap (t-i64.wrap (g*(↑(ws.getD (0+(i64.wrap ((n:Int)-1)).toNat*1) 0):Int)))*16777216)+(↑(xs.getD (0+(i64.wrap (i64.wrap ((j:Int)+n)-2)).toNat*1) 0):Int)))=true)(h2:decide (i64.wrap (t-i64.wrap (g*(↑(ws.getD (0+(i64.wrap ((n:Int)-1)).toNat*1) 0):Int)))<16777216)=false)(o0:(0:Int)≤i64.wrap ((n:Int)-2)∧i64.wrap ((n:Int)-2)<(n:Int))(o1:(own (j3 ws))[0+(i64.wrap ((n:Int)-2)).toNat*1]?=some (.cv (.lit (.int .i64 (↑(ws.getD (0+(i64.wrap ((n:Int)-2)).toNat*1) 0):Int)))))(o3:(0:Int)≤i64.wrap ((n:Int)-1)∧i64.wrap ((n:Int)-1)<(n:Int))(o4:(own (j3 ws))[0+(i64.wrap ((n:Int)-1)).toNat*1]?=some (.cv (.lit (.int .i64 (↑(ws.getD (0+(i64.wrap ((n:Int)-1)).toNat*1) 0):Int)))))(o6:(0:Int)≤i64.wrap (i64.wrap ((j:Int)+n)-2)∧i64.wrap (i64.wrap ((j:Int)+n)-2)<(o:Int))(o7:(own (j3 xs))[0+(i64.wrap (i64.wrap ((j:Int)+n)-2)).toNat*1]?=some (.cv (.lit (.int .i64 (↑(xs.getD (0+(i64.wrap (i64.wrap ((j:Int)+n)-2)).toNat*1) 0):Int)))))(o10:(0:Int)≤i64.wrap ((n:Int)-1)∧i64.wrap ((n:Int)-1)<(n:Int))(o11:(own (j3 ws))[0+(i64.wrap ((n:Int)-1)).toNat*1]?=some (.cv (.lit (.int .i64 (↑(ws.getD (0+(i64.wrap ((n:Int)-1)).toNat*1) 0):Int))))){R:Goal}(hn:J0 R.n [0,1,2,3]=true)(hR:Ok P 253 (loopHead P 253 2) ⟨J3 238 [(8,.sl 0 0 1 1),(9,.sl (0+1) 0 n 1),(10,.cv (.lit (.int .i64 (n:Int)))),(11,.sl (0+1+1) 0 o 1),(12,.sl (0+1+1+1) 0 m 1),(13,.cv (.lit (.int .i64 (j:Int)))),(15,.cv (.lit (.int .i64 g))),(16,.cv (.lit (.int .i64 0))),(17,.cv (.lit (.int .i64 0)))],[some [.cv (.lit (.int .i64 F))],some (own (j3 ws)),some (own (j3 xs)),some (own (j3 qs))]⟩ R):Ok P 253 (loopHead P 253 1) ⟨J3 238 [(8,.sl 0 0 1 1),(9,.sl 1 0 n 1),(10,.cv (j6 (n:Int))),(11,.sl 2 0 o 1),(12,.sl 3 0 m 1),(13,.cv (j6 (j:Int))),(14,.cv (j6 t)),(15,.cv (j6 g))],[some [.cv (j6 F)],some (own (j3 ws)),some (own (j3 xs)),some (own (j3 qs))]⟩ R:=
 z0D (keep:=[8,9,10,11,12,13,15,16,17]) (σ:=[0,1,2,3]) (.c o0 (.e 6 o1 (.c (eqn 1) (.c o3 (.e 14 o4 (.c (eqn 1) (.c o6 (.e 24 o7 (.c (eqn 1) (.b 27 h1 (.c o10 (.e 34 o11 (.c (eqn 1) (.b 39 h2 (.o 42 .stop .nil))))))))))))))) (by kernel_rfl) rfl hn hR (.cons (by simp[CvL]) (.cons (j9 _) (.cons (j9 _) (.cons (j9 _) .nil))))
theorem znu(n o m j:Nat)(F t g:Int)(ws xs qs:List Nat)(h1:decide (i64.wrap (g*(↑(ws.getD (0+(i64.wrap ((n:Int)-2)).toNat*1) 0):Int))>i64.wrap (i64.wrap (i64.wrap (t-i64.wrap (g*(↑(ws.getD (0+(i64.wrap ((n:Int)-1)).toNat*1) 0):Int)))*16777216)+(↑(xs.getD (0+(i64.wrap (i64.wrap ((j:Int)+n)-2)).toNat*1) 0):Int)))=false)(o0:(0:Int)≤i64.wrap ((n:Int)-2)∧i64.wrap ((n:Int)-2)<(n:Int))(o1:(own (j3 ws))[0+(i64.wrap ((n:Int)-2)).toNat*1]?=some (.cv (.lit (.int .i64 (↑(ws.getD (0+(i64.wrap ((n:Int)-2)).toNat*1) 0):Int)))))(o3:(0:Int)≤i64.wrap ((n:Int)-1)∧i64.wrap ((n:Int)-1)<(n:Int))(o4:(own (j3 ws))[0+(i64.wrap ((n:Int)-1)).toNat*1]?=some (.cv (.lit (.int .i64 (↑(ws.getD (0+(i64.wrap ((n:Int)-1)).toNat*1) 0):Int)))))(o6:(0:Int)≤i64.wrap (i64.wrap ((j:Int)+n)-2)∧i64.wrap (i64.wrap ((j:Int)+n)-2)<(o:Int))(o7:(own (j3 xs))[0+(i64.wrap (i64.wrap ((j:Int)+n)-2)).toNat*1]?=some (.cv (.lit (.int .i64 (↑(xs.getD (0+(i64.wrap (i64.wrap ((j:Int)+n)-2)).toNat*1) 0):Int))))){R:Goal}(hn:J0 R.n [0,1,2,3]=true)(hR:Ok P 253 (loopHead P 253 2) ⟨J3 238 [(8,.sl 0 0 1 1),(9,.sl (0+1) 0 n 1),(10,.cv (.lit (.int .i64 (n:Int)))),(11,.sl (0+1+1) 0 o 1),(12,.sl (0+1+1+1) 0 m 1),(13,.cv (.lit (.int .i64 (j:Int)))),(15,.cv (.lit (.int .i64 g))),(16,.cv (.lit (.int .i64 0))),(17,.cv (.lit (.int .i64 0)))],[some [.cv (.lit (.int .i64 F))],some (own (j3 ws)),some (own (j3 xs)),some (own (j3 qs))]⟩ R):Ok P 253 (loopHead P 253 1) ⟨J3 238 [(8,.sl 0 0 1 1),(9,.sl 1 0 n 1),(10,.cv (j6 (n:Int))),(11,.sl 2 0 o 1),(12,.sl 3 0 m 1),(13,.cv (j6 (j:Int))),(14,.cv (j6 t)),(15,.cv (j6 g))],[some [.cv (j6 F)],some (own (j3 ws)),some (own (j3 xs)),some (own (j3 qs))]⟩ R:=
 z0D (keep:=[8,9,10,11,12,13,15,16,17]) (σ:=[0,1,2,3]) (.c o0 (.e 6 o1 (.c (eqn 1) (.c o3 (.e 14 o4 (.c (eqn 1) (.c o6 (.e 24 o7 (.c (eqn 1) (.b 27 h1 (.o 42 .stop .nil))))))))))) (by kernel_rfl) rfl hn hR (.cons (by simp[CvL]) (.cons (j9 _) (.cons (j9 _) (.cons (j9 _) .nil))))
end Go.Fw
open Go IntKind
namespace Go.Fw
set_option maxRecDepth 100000
theorem ziF(n o m j i:Nat)(F g c x y:Int)(ws qs:List Nat)(cs:List MV)(g1:decide ((i:Int)<n)=false)(h1:decide (y<0)=true)(o1:(0:Int)≤i64.wrap ((j:Int)+n)∧i64.wrap ((j:Int)+n)<(o:Int))(o2:cs[0+(i64.wrap ((j:Int)+n)).toNat*1]?=some (.cv (.lit (.int .i64 x))))(o4:(0:Int)≤i64.wrap ((j:Int)+n)∧i64.wrap ((j:Int)+n)<(o:Int))(o5:0+(i64.wrap ((j:Int)+n)).toNat*1+1≤cs.length)(o6:(0:Int)≤i64.wrap ((j:Int)+n)∧i64.wrap ((j:Int)+n)<(o:Int))(o7:(j4 cs (0+(i64.wrap ((j:Int)+n)).toNat*1) [.cv (.lit (.int .i64 (i64.wrap (x+c))))])[0+(i64.wrap ((j:Int)+n)).toNat*1]?=some (.cv (.lit (.int .i64 y))))(o12:CvL (j4 cs (0+(i64.wrap ((j:Int)+n)).toNat*1) [.cv (.lit (.int .i64 (i64.wrap (x+c))))])){R:Goal}(hn:J0 R.n [0,1,2,3]=true)(hR:Ok P 253 (loopHead P 253 3) ⟨J3 238 [(8,.sl 0 0 1 1),(9,.sl (0+1) 0 n 1),(10,.cv (.lit (.int .i64 (n:Int)))),(11,.sl (0+1+1) 0 o 1),(12,.sl (0+1+1+1) 0 m 1),(13,.cv (.lit (.int .i64 (j:Int)))),(15,.cv (.lit (.int .i64 (i64.wrap (g-1))))),(16,.cv (.lit (.int .i64 0))),(18,.cv (.lit (.int .i64 0)))],[some [.cv (.lit (.int .i64 F))],some (own (j3 ws)),some (j4 cs (0+(i64.wrap ((j:Int)+n)).toNat*1) [.cv (.lit (.int .i64 (i64.wrap (x+c))))]),some (own (j3 qs))]⟩ R):Ok P 253 (loopHead P 253 2) ⟨J3 238 [(8,.sl 0 0 1 1),(9,.sl 1 0 n 1),(10,.cv (j6 (n:Int))),(11,.sl 2 0 o 1),(12,.sl 3 0 m 1),(13,.cv (j6 (j:Int))),(15,.cv (j6 g)),(16,.cv (j6 c)),(17,.cv (j6 (i:Int)))],[some [.cv (j6 F)],some (own (j3 ws)),some cs,some (own (j3 qs))]⟩ R:=
 z0D (keep:=[8,9,10,11,12,13,15,16,18]) (σ:=[0,1,2,3]) (.b 4 g1 (.c o1 (.c o2 (.c (eqn 1) (.c o4 (.c o5 (.c o6 (.c o7 (.c (eqn 1) (.o 10 (.e (.cv (j6 x))) (.o 20 (.e (.cv (j6 y))) (.b 22 h1 (.o 28 .stop .nil))))))))))))) (by kernel_rfl) rfl hn hR (.cons (by simp[CvL]) (.cons (j9 _) (.cons o12 (.cons (j9 _) .nil))))
theorem zjP(n o m j i:Nat)(F g c x y:Int)(ws qs:List Nat)(cs:List MV)(g1:decide ((i:Int)<n)=false)(h1:decide (y<0)=false)(o1:(0:Int)≤i64.wrap ((j:Int)+n)∧i64.wrap ((j:Int)+n)<(o:Int))(o2:cs[0+(i64.wrap ((j:Int)+n)).toNat*1]?=some (.cv (.lit (.int .i64 x))))(o4:(0:Int)≤i64.wrap ((j:Int)+n)∧i64.wrap ((j:Int)+n)<(o:Int))(o5:0+(i64.wrap ((j:Int)+n)).toNat*1+1≤cs.length)(o6:(0:Int)≤i64.wrap ((j:Int)+n)∧i64.wrap ((j:Int)+n)<(o:Int))(o7:(j4 cs (0+(i64.wrap ((j:Int)+n)).toNat*1) [.cv (.lit (.int .i64 (i64.wrap (x+c))))])[0+(i64.wrap ((j:Int)+n)).toNat*1]?=some (.cv (.lit (.int .i64 y))))(o10:(0:Int)≤j∧(j:Int)<m)(o11:0+(j:Int).toNat*1+1≤(own (j3 qs)).length)(o14:CvL (j4 cs (0+(i64.wrap ((j:Int)+n)).toNat*1) [.cv (.lit (.int .i64 (i64.wrap (x+c))))]))(o15:CvL (j4 (own (j3 qs)) (0+(j:Int).toNat*1) [.cv (.lit (.int .i64 g))])){R:Goal}(hn:J0 R.n [0,1,2,3]=true)(hR:Ok P 253 (loopHead P 253 0) ⟨J3 238 [(8,.sl 0 0 1 1),(9,.sl (0+1) 0 n 1),(10,.cv (.lit (.int .i64 (n:Int)))),(11,.sl (0+1+1) 0 o 1),(12,.sl (0+1+1+1) 0 m 1),(13,.cv (.lit (.int .i64 (i64.wrap ((j:Int)-1)))))],[some [.cv (.lit (.int .i64 F))],some (own (j3 ws)),some (j4 cs (0+(i64.wrap ((j:Int)+n)).toNat*1) [.cv (.lit (.int .i64 (i64.wrap (x+c))))]),some (j4 (own (j3 qs)) (0+(j:Int).toNat*1) [.cv (.lit (.int .i64 g))])]⟩ R):Ok P 253 (loopHead P 253 2) ⟨J3 238 [(8,.sl 0 0 1 1),(9,.sl 1 0 n 1),(10,.cv (j6 (n:Int))),(11,.sl 2 0 o 1),(12,.sl 3 0 m 1),(13,.cv (j6 (j:Int))),(15,.cv (j6 g)),(16,.cv (j6 c)),(17,.cv (j6 (i:Int)))],[some [.cv (j6 F)],some (own (j3 ws)),some cs,some (own (j3 qs))]⟩ R:=
 z0D (keep:=[8,9,10,11,12,13]) (σ:=[0,1,2,3]) (.b 4 g1 (.c o1 (.c o2 (.c (eqn 1) (.c o4 (.c o5 (.c o6 (.c o7 (.c (eqn 1) (.o 10 (.e (.cv (j6 x))) (.o 20 (.e (.cv (j6 y))) (.b 22 h1 (.c o10 (.c o11 (.o 31 .stop .nil))))))))))))))) (by kernel_rfl) rfl hn hR (.cons (by simp[CvL]) (.cons (j9 _) (.cons o14 (.cons o15 .nil))))
end Go.Fw
open Go IntKind
namespace Go.Fw
set_option maxRecDepth 100000
theorem ziT(n o m j i:Nat)(F g c x:Int)(ws qs:List Nat)(cs:List MV)(g1:decide ((i:Int)<n)=false)(o1:(0:Int)≤i64.wrap ((j:Int)+n)∧i64.wrap ((j:Int)+n)<(o:Int))(o2:cs[0+(i64.wrap ((j:Int)+n)).toNat*1]?=some (.cv (.lit (.int .i64 x))))(o4:(0:Int)≤i64.wrap ((j:Int)+n)∧i64.wrap ((j:Int)+n)<(o:Int))(o5:0+(i64.wrap ((j:Int)+n)).toNat*1+1≤cs.length)(o6:(0:Int)≤j∧(j:Int)<m)(o7:0+(j:Int).toNat*1+1≤(own (j3 qs)).length)(o10:CvL (j4 cs (0+(i64.wrap ((j:Int)+n)).toNat*1) [.cv (.lit (.int .i64 (i64.wrap (x+c))))]))(o11:CvL (j4 (own (j3 qs)) (0+(j:Int).toNat*1) [.cv (.lit (.int .i64 g))])){R:Goal}(hn:J0 R.n [0,1,2,3]=true)(hR:Ok P 253 (loopHead P 253 0) ⟨J3 238 [(8,.sl 0 0 1 1),(9,.sl (0+1) 0 n 1),(10,.cv (.lit (.int .i64 (n:Int)))),(11,.sl (0+1+1) 0 o 1),(12,.sl (0+1+1+1) 0 m 1),(13,.cv (.lit (.int .i64 (i64.wrap ((j:Int)-1)))))],[some [.cv (.lit (.int .i64 F))],some (own (j3 ws)),some (j4 cs (0+(i64.wrap ((j:Int)+n)).toNat*1) [.cv (.lit (.int .i64 (i64.wrap (x+c))))]),some (j4 (own (j3 qs)) (0+(j:Int).toNat*1) [.cv (.lit (.int .i64 g))])]⟩ R):Ok P 253 (loopHead P 253 3) ⟨J3 238 [(8,.sl 0 0 1 1),(9,.sl 1 0 n 1),(10,.cv (j6 (n:Int))),(11,.sl 2 0 o 1),(12,.sl 3 0 m 1),(13,.cv (j6 (j:Int))),(15,.cv (j6 g)),(16,.cv (j6 c)),(18,.cv (j6 (i:Int)))],[some [.cv (j6 F)],some (own (j3 ws)),some cs,some (own (j3 qs))]⟩ R:=
 z0D (keep:=[8,9,10,11,12,13]) (σ:=[0,1,2,3]) (.b 4 g1 (.c o1 (.c o2 (.c (eqn 1) (.c o4 (.c o5 (.c o6 (.c o7 (.o 10 (.e (.cv (j6 x))) (.o 23 .stop .nil)))))))))) (by kernel_rfl) rfl hn hR (.cons (by simp[CvL]) (.cons (j9 _) (.cons o10 (.cons o11 .nil))))
end Go.Fw
open Go
namespace Go.Fw
set_option maxRecDepth 100000
abbrev dS0(n o m:Nat)(j F:Int)(ws xs qs:List Nat):St:=⟨J3 238 [(8,.sl 0 0 1 1),(9,.sl 1 0 n 1),(10,.cv (j6 (n:Int))),(11,.sl 2 0 o 1),(12,.sl 3 0 m 1),(13,.cv (j6 j))],[some [.cv (j6 F)],some (own (j3 ws)),some (own (j3 xs)),some (own (j3 qs))]⟩
abbrev dS1(n o m j:Nat)(F t g:Int)(ws xs qs:List Nat):St:=⟨J3 238 [(8,.sl 0 0 1 1),(9,.sl 1 0 n 1),(10,.cv (j6 (n:Int))),(11,.sl 2 0 o 1),(12,.sl 3 0 m 1),(13,.cv (j6 (j:Int))),(14,.cv (j6 t)),(15,.cv (j6 g))],[some [.cv (j6 F)],some (own (j3 ws)),some (own (j3 xs)),some (own (j3 qs))]⟩
theorem z9L(n:Nat)(ws:List Nat)(V:Nat)(hws:n≤ws.length)(hwd:Dig B24 ws)(hwv:val B24 (ws.take n)=V){k:Nat}(hk:k<n):ws.getD k 0=V/B24^k%B24:=by
 have:=z2O (j:=0) hwd (by omega:0+n≤ws.length) hk
 rw[Nat.zero_add,List.drop_zero,hwv]at this
 exact this
theorem zpD(n:Nat)(ws:List Nat)(V:Nat)(hws:n≤ws.length)(hwd:Dig B24 ws)(hwv:val B24 (ws.take n)=V):V<B24^n:=by
 rw[←hwv]
 have:=z0z (by decide:0<B24) _ (hwd.take n)
 rwa[show(ws.take n).length=n by simp;omega]at this
theorem z6U{xs:List Nat}{k:Nat}{e:Nat}(h:e=k)(hk:k<xs.length):(own (j3 xs))[e]?=some (MV.cv (CV.lit (.int .i64 ((xs.getD e 0:Nat):Int)))):=by
 subst h
 exact Y7 (Z8 hk)
theorem zep {R : Goal} (hn : J0 R.n [0, 1, 2, 3] = true) (n o m j : Nat) (F : Int) (ws xs qs : List Nat) (U V v1 v2 t u2 p : Nat) (G : R24.Guess U V v1 v2 t u2 p) (hn2 : 2 ≤ n) (hws : n ≤ ws.length) (hxs : xs.length = o) (hjn : j + n < o) (ho : o < 2 ^ 41)
    (d1:ws.getD (n-1) 0=v1) (d2:ws.getD (n-2) 0=v2) (du:xs.getD (j+n-2) 0=u2)
    (hk: ∀g:Nat,g<16777216→g=U/V∨g=U/V+1→Ok P 253 (loopHead P 253 2) (dS2 n o m j 0 F (g:Int) 0 ws qs (own (j3 xs))) R):
    ∀g:Nat,R24.Corr U V v1 v2 t u2 g→t-g*v1<33554432→Ok P 253 (loopHead P 253 1) (dS1 n o m j F (t:Int) (g:Int) ws xs qs) R:=by
 have b1:=G.hv1'
 have b2:=G.hv2
 have b3:=G.hu2
 have e1:IntKind.i64.wrap ((n:Int)-2)=((n-2:Nat):Int):=by rw[w64 (by omega)];omega
 have e2:IntKind.i64.wrap ((n:Int)-1)=((n-1:Nat):Int):=by rw[w64 (by omega)];omega
 have e3:IntKind.i64.wrap (IntKind.i64.wrap ((j:Int)+(n:Int))-2)=((j+n-2:Nat):Int):=by rw[w64 (n:=(j:Int)+n) (by omega),w64 (by omega)];omega
 have f1:(0:Nat)+((n-2:Nat):Int).toNat*1=n-2:=by omega
 have f2:(0:Nat)+((n-1:Nat):Int).toNat*1=n-1:=by omega
 have f3:(0:Nat)+((j+n-2:Nat):Int).toNat*1=j+n-2:=by omega
 have l1:=z6U (xs:=ws) (k:=n-2) (e:=0+(IntKind.i64.wrap ((n:Int)-2)).toNat*1) (by rw[e1];exact f1) (by omega)
 have l2:=z6U (xs:=ws) (k:=n-1) (e:=0+(IntKind.i64.wrap ((n:Int)-1)).toNat*1) (by rw[e2];exact f2) (by omega)
 have l3:=z6U (xs:=xs) (k:=j+n-2) (e:=0+(IntKind.i64.wrap (IntKind.i64.wrap ((j:Int)+(n:Int))-2)).toNat*1) (by rw[e3];exact f3) (by omega)
 have q1:(0:Int)≤IntKind.i64.wrap ((n:Int)-2)∧IntKind.i64.wrap ((n:Int)-2)<(n:Int):=by rw[e1];omega
 have q2:(0:Int)≤IntKind.i64.wrap ((n:Int)-1)∧IntKind.i64.wrap ((n:Int)-1)<(n:Int):=by rw[e2];omega
 have q3:(0:Int)≤IntKind.i64.wrap (IntKind.i64.wrap ((j:Int)+(n:Int))-2)∧IntKind.i64.wrap (IntKind.i64.wrap ((j:Int)+(n:Int))-2)<(o:Int):=by rw[e3];omega
 intro g
 induction g using Nat.strongRecOn with
 |_ g ih=>
  intro c hr
  obtain⟨m1,m2,m3⟩:=zbq c.lt b1 b2 b3 c.mul hr
  have cm:=c.mul
  have cl:g<16777216:=c.lt
  by_cases h1:(t-g*v1)*16777216+u2<g*v2
  · by_cases h2:t-g*v1<16777216
    · refine zmc n o m j F _ _ ws _ qs ?_ ?_ q1 l1 q2 l2 q3 l3 q2 l2 hn ?_
      · rw[e1,e2,e3,f1,f2,f3,d1,d2,du,m1,m2,m3];exact decide_eq_true (by exact_mod_cast h1)
      · rw[e2,f2,d1,m2];exact decide_eq_true (by omega)
      · obtain⟨k1,k2⟩:=R24.Corr.step G c h1
        have e4:IntKind.i64.wrap ((g:Int)-1)=((g-1:Nat):Int):=by rw[w64 (by omega)];omega
        rw[e4]
        refine ih (g-1) (by omega) k2 ?_
        have e5:g*v1=(g-1)*v1+v1:=by
         obtain⟨g',rfl⟩: ∃g',g=g'+1:=⟨g-1,by omega⟩
         rw[Nat.add_sub_cancel,Nat.add_mul,Nat.one_mul]
        have b1':v1<16777216:=b1
        omega
    · refine znB n o m j F _ _ ws _ qs ?_ ?_ q1 l1 q2 l2 q3 l3 q2 l2 hn ?_
      · rw[e1,e2,e3,f1,f2,f3,d1,d2,du,m1,m2,m3];exact decide_eq_true (by exact_mod_cast h1)
      · rw[e2,f2,d1,m2];exact decide_eq_false (by omega)
      · exact hk g cl (R24.Corr.done G c (.inr (Nat.le_of_not_lt h2)))
  · refine znu n o m j F _ _ ws _ qs ?_ q1 l1 q2 l2 q3 l3 hn ?_
    · rw[e1,e2,e3,f1,f2,f3,d1,d2,du,m1,m2,m3];exact decide_eq_false (by exact_mod_cast h1)
    · exact hk g cl (R24.Corr.done G c (.inl (Nat.le_of_not_lt h1)))
end Go.Fw
