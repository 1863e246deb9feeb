/- A part of the proof that the law returns true for every input: an executor for the model's code, and what functions of the program compute. -/
import Derived.Test.YtcafjpldfnegiaaGreatDoorB11
import Derived.Test.YtcafjpldfnegiaaGreatDoorB15
import Derived.Test.YtcafjpldfnegiaaGreatDoorB41
import Derived.Test.YtcafjpldfnegiaaGreatDoorB42
import Derived.KernelRfl
open Go IntKind
namespace Go.Fw
set_option maxRecDepth 100000
theorem zdI(o f1 f2 f3 m1 m2 m3 r1 r2 r3:K):o-(m1*r1+m2*r2+m3*r3)=(o-(f1*r1+f2*r2+f3*r3))+((f1-m1)*r1+(f2-m2)*r2+(f3-m3)*r3):=
 (show ∀ρ:Nat→K,ρ 0-(ρ 4*ρ 7+ρ 5*ρ 8+ρ 6*ρ 9)=(ρ 0-(ρ 1*ρ 7+ρ 2*ρ 8+ρ 3*ρ 9))+((ρ 1-ρ 4)*ρ 7+(ρ 2-ρ 5)*ρ 8+(ρ 3-ρ 6)*ρ 9)from fun ρ=>CR.ring ρ rfl) (CR.vr [o,f1,f2,f3,m1,m2,m3,r1,r2,r3])
theorem zh2(b c n1 n2 n3 r1 r2 r3 e1 e2 e3 r:K):(b+((e1*n1+e2*n2+e3*n3)+(e1*n1+e2*n2+e3*n3))+c)+(r+(e1*r1+e2*r2+e3*r3))*(r+(e1*r1+e2*r2+e3*r3))=(b+r*r)+((e1*(n1+r1*r)+e2*(n2+r2*r)+e3*(n3+r3*r))+(e1*(n1+r1*r)+e2*(n2+r2*r)+e3*(n3+r3*r)))+(c+(e1*r1+e2*r2+e3*r3)*(e1*r1+e2*r2+e3*r3)):=
 (show ∀ρ:Nat→K,(ρ 0+((ρ 8*ρ 2+ρ 9*ρ 3+ρ 10*ρ 4)+(ρ 8*ρ 2+ρ 9*ρ 3+ρ 10*ρ 4))+ρ 1)+(ρ 11+(ρ 8*ρ 5+ρ 9*ρ 6+ρ 10*ρ 7))*(ρ 11+(ρ 8*ρ 5+ρ 9*ρ 6+ρ 10*ρ 7))=(ρ 0+ρ 11*ρ 11)+((ρ 8*(ρ 2+ρ 5*ρ 11)+ρ 9*(ρ 3+ρ 6*ρ 11)+ρ 10*(ρ 4+ρ 7*ρ 11))+(ρ 8*(ρ 2+ρ 5*ρ 11)+ρ 9*(ρ 3+ρ 6*ρ 11)+ρ 10*(ρ 4+ρ 7*ρ 11)))+(ρ 1+(ρ 8*ρ 5+ρ 9*ρ 6+ρ 10*ρ 7)*(ρ 8*ρ 5+ρ 9*ρ 6+ρ 10*ρ 7))from fun ρ=>CR.ring ρ rfl) (CR.vr [b,c,n1,n2,n3,r1,r2,r3,e1,e2,e3,r])
theorem zjF(x c e1 e2 e3:K):x-(x+((e1*0+e2*0+e3*0)+(e1*0+e2*0+e3*0))+c)= -c:=
 (show ∀ρ:Nat→K,ρ 0-(ρ 0+((ρ 2*0+ρ 3*0+ρ 4*0)+(ρ 2*0+ρ 3*0+ρ 4*0))+ρ 1)= -ρ 1 from fun ρ=>CR.ring ρ rfl) (CR.vr [x,c,e1,e2,e3])
noncomputable def msK(m:V3)(s:K)(l:List (Int×Int)):K:=l.foldl (fun s x=>s+z84 m x*z84 m x) s
noncomputable def usq(e:V3)(s:K)(l:List (Int×Int)):K:=l.foldl (fun s x=>s+V3.dot' e (z1u x.1)*V3.dot' e (z1u x.1)) s
def V3.minus(v w:V3):V3:=⟨v.x-w.x,v.y-w.y,v.z-w.z⟩
theorem zhc (f m : V3) (l : List (Int × Int)) : ∀ (b c : K) (n : V3),
    msK m (b+(V3.dot' (f.minus m) n+V3.dot' (f.minus m) n)+c) l=msK f b l+(V3.dot' (f.minus m) (l.foldl (z8m f) n)+V3.dot' (f.minus m) (l.foldl (z8m f) n))+usq (f.minus m) c l:=by
 induction l with
 |nil=>intro b c n;rfl
 |cons x l ih=>
  intro b c n
  have e:z84 m x=z84 f x+V3.dot' (f.minus m) (z1u x.1):=zdI _ _ _ _ _ _ _ _ _ _
  have st:=zh2 b c n.x n.y n.z (z1u x.1).x (z1u x.1).y (z1u x.1).z (f.minus m).x (f.minus m).y (f.minus m).z (z84 f x)
  have h:=ih (b+z84 f x*z84 f x) (c+V3.dot' (f.minus m) (z1u x.1)*V3.dot' (f.minus m) (z1u x.1)) (z8m f n x)
  show msK m ((b+(V3.dot' (f.minus m) n+V3.dot' (f.minus m) n)+c)+z84 m x*z84 m x) l=_
  rw[e]
  refine Eq.trans ?_ h
  exact congrArg (fun z=>msK m z l) st
theorem zk2{x y:K}(hx:0≤K.sgn x)(hy:0≤K.sgn y):0≤K.sgn (x+y):=by
 rcases K.sgn_vals x with h|h|h
 · omega
 · rw[K.sgn_zero.1 h,K.zero_add];exact hy
 · rcases K.sgn_vals y with k|k|k
   · omega
   · rw[K.sgn_zero.1 k,K.add_zero];exact hx
   · rw[K.sgn_add x y h k];decide
theorem znC(x:K):0≤K.sgn (x*x):=by
 rw[K.sgn_mul]
 rcases K.sgn_vals x with h|h|h<;>rw[h]<;>decide
theorem zjZ(e:V3)(l:List (Int×Int)): ∀s:K,0≤K.sgn s→0≤K.sgn (usq e s l):=by
 induction l with
 |nil=>intro s h;exact h
 |cons x l ih=>intro s h;exact ih _ (zk2 h (znC _))
theorem zoA{l:List (Int×Int)}(h:K.sgn (z4l (z02 l).a (z02 l).b (z02 l).c)≠0)(m:V3):K.sgn (msK (z3t l) 0 l-msK m 0 l)≤0:=by
 have e:=zhc (z3t l) m l 0 0 ⟨0,0,0⟩
 rw[z8N h]at e
 have z:(0:K)+(V3.dot' ((z3t l).minus m) ⟨0,0,0⟩+V3.dot' ((z3t l).minus m) ⟨0,0,0⟩)+0=0:=
  (show ∀ρ:Nat→K,(0:K)+((ρ 0*0+ρ 1*0+ρ 2*0)+(ρ 0*0+ρ 1*0+ρ 2*0))+0=0 from fun ρ=>CR.ring ρ rfl) (CR.vr [((z3t l).minus m).x,((z3t l).minus m).y,((z3t l).minus m).z])
 rw[z]at e
 rw[e]
 have s:=zjF (msK (z3t l) 0 l) (usq ((z3t l).minus m) 0 l) ((z3t l).minus m).x ((z3t l).minus m).y ((z3t l).minus m).z
 have s':msK (z3t l) 0 l-(msK (z3t l) 0 l+(V3.dot' ((z3t l).minus m) ⟨0,0,0⟩+V3.dot' ((z3t l).minus m) ⟨0,0,0⟩)+usq ((z3t l).minus m) 0 l)= -usq ((z3t l).minus m) 0 l:=s
 rw[s',K.sgn_neg]
 have:=zjZ ((z3t l).minus m) l 0 (by rw[K.sgn_zero.2 rfl];decide)
 omega
theorem zdP(m:V3)(l:List (Int×Int)): ∀s:K,zb0 (kN s) (l.map (z5T (kv m)))=kN (msK m s l):=by
 induction l with
 |nil=>intro s;rfl
 |cons x l ih=>
  intro s
  show zb0 (z3s (kN s) (zaK (z5T (kv m) x) (z5T (kv m) x))) (l.map (z5T (kv m)))=_
  rw[zm2,zmy,zjT,ih]
  rfl
theorem zh8{l:List (Int×Int)}(g:z4j l=true)(m:V3):z9s l (kv m)=(kN (msK m 0 l),0):=by
 unfold z9s
 rw[ziZ g,if_pos rfl]
 dsimp only
 rw[z8R,show K.ofInt 0=(0:K)from rfl,zdP]
def ind(q:Int)(ks:List Int):Int:=if q∈ks then 1 else 0
theorem z15(q s:Int)(ks:List Int):ind q (zaj s ks)=if s=q then 1 else ind q ks:=by
 unfold ind zaj
 by_cases h:s∈ks
 · rw[if_pos h]
   by_cases e:s=q
   · rw[if_pos e,if_pos (e ▸ h)]
   · rw[if_neg e]
 · rw[if_neg h]
   by_cases e:s=q
   · rw[if_pos e,if_pos (by rw[e];simp)]
   · rw[if_neg e]
     have:q∈ks++[s]↔q∈ks:=by
      rw[List.mem_append,List.mem_singleton]
      exact⟨fun h=>h.resolve_right fun x=>e x.symm,.inl⟩
     by_cases k:q∈ks
     · rw[if_pos (this.2 k),if_pos k]
     · rw[if_neg fun x=>k (this.1 x),if_neg k]
theorem zex(s:Int)(ks:List Int):((zaj s ks).length:Int)=ks.length+(1-ind s ks):=by
 unfold zaj ind
 by_cases h:s∈ks
 · rw[if_pos h,if_pos h];omega
 · rw[if_neg h,if_neg h,List.length_append,List.length_singleton];omega
def pk(n i:Int):Int:=if 0<n then 1 else i
theorem z6r(q r i n:Int)(hn:0≤n):pk n (if r=q then 1 else i)=pk ((if r=q then 1 else 0)+n) i:=by
 unfold pk
 by_cases h:r=q
 · rw[if_pos h,if_pos h,if_pos (show 0<1+n by omega)];split<;>rfl
 · rw[if_neg h,if_neg h,Int.zero_add]
theorem zfM : ∀ (l ks : List Int), (ks.length : Int) = ind 0 ks + ind 1 ks + ind 2 ks + ind 3 ks →
    ((l.foldl (fun ks p=>zaj (p%4) ks) ks).length:Int)=pk (cn 0 l) (ind 0 ks)+pk (cn 1 l) (ind 1 ks)+pk (cn 2 l) (ind 2 ks)+pk (cn 3 l) (ind 3 ks)
 | [],ks,h=>by rw[List.foldl_nil,h];rfl
 |p::l,ks,h=>by
  have c: ∀q,cn q (p::l)=(if p%4=q then 1 else 0)+cn q l:=fun _=>rfl
  rw[List.foldl_cons,zfM l (zaj (p%4) ks) ?_]
  · rw[z15,z15,z15,z15,c,c,c,c,z6r _ _ _ _ (z3E _ _),z6r _ _ _ _ (z3E _ _),z6r _ _ _ _ (z3E _ _),z6r _ _ _ _ (z3E _ _)]
  · rw[zex,z15,z15,z15,z15,h]
    rcases zjy p with e|e|e|e<;>rw[e]<;>simp<;>omega
theorem zg6(l:List Int):((ksX l).length:Int)=(if 0<cn 0 l then 1 else 0)+(if 0<cn 1 l then 1 else 0)+(if 0<cn 2 l then 1 else 0)+(if 0<cn 3 l then 1 else 0):=zfM l [] rfl
theorem zjh(l:List Int)(h:(ksX l).length<3):e3 (cn 0 l) (cn 1 l) (cn 2 l) (cn 3 l)=0:=by
 have k:=zg6 l
 have n0:=z3E 0 l
 have n1:=z3E 1 l
 have n2:=z3E 2 l
 have n3:=z3E 3 l
 have z: ∀{q:Int},0≤q→ ¬0<q→q=0:=fun _ _=>by omega
 unfold e3
 by_cases h0:0<cn 0 l<;>by_cases h1:0<cn 1 l<;>by_cases h2:0<cn 2 l<;>by_cases h3:0<cn 3 l<;>simp only[h0,h1,h2,h3,if_true,if_false]at k<;>first
  |omega
  |(simp[z n0,z n1,z n2,z n3,h0,h1,h2,h3])
theorem zfT(l:List Int)(h: ¬(ksX l).length<3):0<e3 (cn 0 l) (cn 1 l) (cn 2 l) (cn 3 l):=by
 have k:=zg6 l
 have n0:=z3E 0 l
 have n1:=z3E 1 l
 have n2:=z3E 2 l
 have n3:=z3E 3 l
 have p: ∀{a b c:Int},0≤a→0≤b→0≤c→0≤a*b*c:=fun ha hb hc=>Int.mul_nonneg (Int.mul_nonneg ha hb) hc
 have q: ∀{a b c:Int},0<a→0<b→0<c→0<a*b*c:=fun ha hb hc=>Int.mul_pos (Int.mul_pos ha hb) hc
 have p1:=p n0 n1 n2
 have p2:=p n0 n1 n3
 have p3:=p n0 n2 n3
 have p4:=p n1 n2 n3
 unfold e3
 by_cases h0:0<cn 0 l
 · by_cases h1:0<cn 1 l
   · by_cases h2:0<cn 2 l
     · have:=q h0 h1 h2;omega
     · by_cases h3:0<cn 3 l
       · have:=q h0 h1 h3;omega
       · simp only[h0,h1,h2,h3,if_true,if_false]at k;omega
   · by_cases h2:0<cn 2 l
     · by_cases h3:0<cn 3 l
       · have:=q h0 h2 h3;omega
       · simp only[h0,h1,h2,h3,if_true,if_false]at k;omega
     · by_cases h3:0<cn 3 l<;>simp only[h0,h1,h2,h3,if_true,if_false]at k<;>omega
 · by_cases h1:0<cn 1 l
   · by_cases h2:0<cn 2 l
     · by_cases h3:0<cn 3 l
       · have:=q h1 h2 h3;omega
       · simp only[h0,h1,h2,h3,if_true,if_false]at k;omega
     · by_cases h3:0<cn 3 l<;>simp only[h0,h1,h2,h3,if_true,if_false]at k<;>omega
   · by_cases h2:0<cn 2 l<;>by_cases h3:0<cn 3 l<;>simp only[h0,h1,h2,h3,if_true,if_false]at k<;>omega
theorem znF{b c q:Int}(hb: -1000≤b∧b≤1000)(hc: -1000≤c∧c≤1000): -1000≤z83 b c q∧z83 b c q≤1000:=by
 unfold z83;split<;>(try split)<;>(try split)<;>omega
theorem zgc{a b c:Int}(ha: -1000≤a∧a≤1000)(hb: -1000≤b∧b≤1000)(hc: -1000≤c∧c≤1000){l:List Int}(hl:l.length≤12):z4j (l.map (rdE a b c))=true:=by
 refine ziG (by rw[List.length_map];omega) fun k hk=>?_
 have hk':k<l.length:=by simpa using hk
 have e:(l.map (rdE a b c))[k]=rdE a b c l[k]:=List.getElem_map _
 rw[e]
 have:=znF hb hc (q:=l[k]%4)
 unfold rdE
 dsimp only
 omega
theorem zgd(a b c:Int)(l:List Int):z4l (z02 (l.map (rdE a b c))).a (z02 (l.map (rdE a b c))).b (z02 (l.map (rdE a b c))).c=K.ofInt (e3 (cn 0 l) (cn 1 l) (cn 2 l) (cn 3 l)):=by
 rw[zd0,zgh]
theorem zj7{a b c:Int}(ha: -1000≤a∧a≤1000)(hb: -1000≤b∧b≤1000)(hc: -1000≤c∧c≤1000){l:List Int}(hl:l.length≤12)(h:(ksX l).length<3):(z1X (l.map (rdE a b c))).2=20:=by
 rw[zfy (zgc ha hb hc hl) (by rw[zgd,zjh l h];exact K.sgn_zero.2 rfl)]
theorem zmi{a b c:Int}{l:List Int}(h: ¬(ksX l).length<3):z3t (l.map (rdE a b c))=⟨K.ofInt a,K.ofInt b,K.ofInt c⟩:=by
 have hD:K.ofInt (e3 (cn 0 l) (cn 1 l) (cn 2 l) (cn 3 l))≠0:=fun e=>by
  have:=K.sgn_zero.2 e
  rw[K.sgn_int,Int.sign_eq_one_of_pos (zfT l h)]at this
  cases this
 have cm: ∀x y:K,x*y=y*x:=fun x y=>(show ∀ρ:Nat→K,ρ 0*ρ 1=ρ 1*ρ 0 from fun ρ=>CR.ring ρ rfl) (CR.vr [x,y])
 unfold z3t
 rw[zd0,zgh,zjl,zhk,ziR,K.div_eq hD (cm _ _),K.div_eq hD (cm _ _),K.div_eq hD (cm _ _)]
theorem zkh(a b c:Int):oV a b c=kv ⟨K.ofInt a,K.ofInt b,K.ofInt c⟩:=by
 have o: ∀v:VN,v=⟨v.x,v.y,v.z⟩:=fun _=>rfl
 rw[o (oV a b c),zn6,znb,znd,z8R,z8R,z8R];rfl
theorem zoG(a b c:Int)(p:Int):z84 ⟨K.ofInt a,K.ofInt b,K.ofInt c⟩ (rdE a b c p)=0:=by
 have key: ∀i o u v:Int,z1u i=⟨K.ofInt 1,K.ofInt u,K.ofInt v⟩→o=a*1+b*u+c*v→z84 ⟨K.ofInt a,K.ofInt b,K.ofInt c⟩ (i,o)=0:=fun i o u v h e=>by
  unfold z84 V3.dot'
  rw[h]
  dsimp only
  rw[←K.ofInt_mul,←K.ofInt_mul,←K.ofInt_mul,←K.ofInt_add,←K.ofInt_add,←z7C,←e,Int.sub_self]
  rfl
 unfold rdE
 rcases zjy p with e|e|e|e<;>rw[e]
 · exact key _ _ 1 0 (by rw[show(6:Int)*0=0 from rfl];exact zoc) (by simp[z83])
 · exact key _ _ 0 1 (by rw[show(6:Int)*1=6 from rfl];exact zo7) (by simp[z83])
 · exact key _ _ (-1) 0 zk8 (by simp[z83])
 · exact key _ _ 0 (-1) zjU (by simp[z83])
theorem ms0(a b c:Int): ∀l:List Int,msK ⟨K.ofInt a,K.ofInt b,K.ofInt c⟩ 0 (l.map (rdE a b c))=0
 | []=>rfl
 |p::l=>by
  have h:=ms0 a b c l
  unfold msK at h ⊢
  rw[List.map_cons,List.foldl_cons,zoG,show(0:K)+0*0=0 from rfl]
  exact h
theorem ziU {a b c : Int} (ha : -1000 ≤ a ∧ a ≤ 1000) (hb : -1000 ≤ b ∧ b ≤ 1000) (hc : -1000 ≤ c ∧ c ≤ 1000) {l : List Int} (hl : l.length ≤ 12) (h : ¬ (ksX l).length < 3) :
    z1X (l.map (rdE a b c))=(oV a b c,0)∧z9s (l.map (rdE a b c)) (oV a b c)=(oN 0,0):=by
 have ok:=zgc ha hb hc hl
 refine⟨?_,?_⟩
 · rw[zcH ok,zmi h,zkh]
   rw[zgd,K.sgn_int,Int.sign_eq_one_of_pos (zfT l h)]
   decide
 · rw[zkh,zh8 ok,ms0,z8R];rfl
theorem z9G(m0 m1 m2:Int)(l:List Int)(hl:l.length≤12)(hb: ∀x∈l,0≤x∧x<256)(hne:l≠[]):PCall P 14 [m3C m0 m1 m2,psV l] (.lit (.bool true)):=
 zfl m0 m1 m2 l hl hb hne (zj7 zeR zeR zeR hl) (ziU zeR zeR zeR hl)
theorem zli(m0:Int)(m1:Int)(m2:Int)(l:List Int)(g:decide ((↑l.length:Int)>(12:Int))=true):PCall P (14:FuncId) [m3C m0 m1 m2,psV l] (CV.lit (Value.bool true)):=
 zcv (ors:=[(2,Or.r (CV.lit (Value.bool true))),(9,Or.b true),(10,Or.r (CV.lit (Value.bool true)))]) (by kernel_rfl) (.cons z8q (.cons g (.cons z8q .nil)))
theorem zkB {R : Goal} (hR : R.n = 0) {rest : List Item} {a b c : Int} {bm : Nat}
    (h:OkX P 14 rest ⟨tmX [] a b c bm (.cv (.lit (.slice none 0 0))) 0 [(41,.cv (.lit (.bool (decide ((0:Int)<0)))))],[]⟩ R (XM bm [])):
    OkX P 14 (.code z06:: .inLoop z06:: .inBlock 0::rest) ⟨tmX [] a b c bm (.cv (.lit (.slice none 0 0))) 0 [],[]⟩ R (XM bm []):=by
 refine OkX.step ?_ (fun b a cs w=>step_seq)
 refine OkX.regSM (s':=⟨tmX [] a b c bm (.cv (.lit (.slice none 0 0))) 0 [(41,.cv (.lit (.bool (decide ((0:Int)<0)))))],[]⟩) (ors:=[]) (41::z1Z) [] (by kernel_rfl) rfl .nil rfl hR ?_
 refine OkX.step ?_ (fun b a cs w=>step_seq)
 refine OkX.cond (t:=decide ((0:Int)<0)) (d:=false) rfl (by decide) ?_
 exact OkX.step (todo':=rest) h (fun b a cs w=>step_exit (by rfl))
theorem zny {R : Goal} (hR : R.n = 0) {rest : List Item} {a b c : Int} {bm : Nat}
    (h:Ok P 14 (zna++rest) ⟨J3 103 ([(5,.cv (j7 a)),(6,.cv (j7 b)),(7,.cv (j7 c)),(8,.cv (.lit (.slice none 0 0))),(13,.ptr 0 0),(14,.cv (j7 20))]++[(9,zdh bm),(75,.cv (.lit (.bool (decide (((([]:List Int).length):Int)<3)))))]),[some (MV.cv VN.zero.c).cells]⟩ R):
    OkX P 14 (.code (xR 13):: .code (.seq (.seq xr14 (xp [true,true,true,true,true,true,true,false,true])) (xp [true,true,true,true,true,true,true,true]))::rest) ⟨tmX [] a b c bm (.cv (.lit (.slice none 0 0))) 0 [(41,.cv (.lit (.bool (decide ((0:Int)<0)))))],[]⟩ R (XM bm []):=by
 refine OkX.regSM (s':=⟨J3 103 ([(5,.cv (j7 a)),(6,.cv (j7 b)),(7,.cv (j7 c)),(8,.cv (.lit (.slice none 0 0))),(13,.ptr 0 0),(14,.cv (j7 20))]++[(9,zdh bm)]),[some (MV.cv VN.zero.c).cells]⟩) (ors:=[(1,.r (.tup [VN.zero.c,j7 20]))]) [5,6,7,8,9,13,14] [1] (by kernel_rfl) rfl (.cons (z7Q zgK) (.cons (show 30≤30 from(by decide)) (.cons (show CvL (MV.cv VN.zero.c).cells from CvL.map_cv _) .nil))) rfl hR ?_
 refine OkX.step ?_ (fun b a cs w=>step_seq)
 refine OkX.step ?_ (fun b a cs w=>step_seq)
 refine zbO (bm:=bm) rfl rfl ?_
 exact h
theorem zaU(m0 m1 m2:Int):PCall P 14 [m3C m0 m1 m2,psV []] (.lit (.bool true)):=by
 refine z5r m0 m1 m2 [] (by decide) (fun bm=>?_)
 refine zkB rfl ?_
 refine OkX.step ?_ (fun b a cs w=>step_seq)
 refine zny (rest:=[]) rfl ?_
 exact okR (ors:=[(0,.b true)]) (by kernel_rfl) (.cons (show decide (((([]:List Int).length):Int)<3)=true from rfl) .nil) rfl
theorem z9Q(m0 m1 m2:Int)(l:List Int)(hb: ∀x∈l,0≤x∧x<256):PCall P 14 [m3C m0 m1 m2,psV l] (.lit (.bool true)):=by
 cases g:decide ((l.length:Int)>12)
 case true=>exact zli m0 m1 m2 l g
 have hl:l.length≤12:=by have:=of_decide_eq_false g;omega
 by_cases hne:l=[]
 · rw[hne];exact zaU m0 m1 m2
 · exact z9G m0 m1 m2 l hl hb hne
open Go.Proofs Go.Proofs.YtcafjpldfnegiaaGreatDoor
open Go.ChangeShapes Go.WideShapes Go.ChangeAt Go.RowKit
theorem zcW {H : Type} {enc : TypeId × Value → H} (W : World) (base : Nat) (args : Array Value) (ds gs : List (DataW H)) (before : List MemPlace)
    (hval: ∀(j:Nat) t v,Tryz.f14.params[j]?=some t→args[j]?=some v→Value.okWide Tryz.prog W .any base t v)
    (hW:DataW.Whole enc Tryz.prog Tryz.f14.params.toList Rows.calibrateExactSpec.vars false W args.toList ds gs before):
    Calls Tryz.prog 14 args W fun e W'=>e= .returned (.bool true)∧Below W.heap.size W W':=by
 obtain⟨p,q,hA,hV,_,_,_⟩:=hW
 rw[Tryz.params14]at hA hval
 obtain⟨v0,vs0,d0,ds0,p0,q0,ha0,hd0,_,h0,r0⟩:=trodAll_cons hA
 obtain⟨v1,vs1,d1,ds1,p1,q1,ha1,hd1,_,h1,r1⟩:=trodAll_cons r0
 obtain⟨hz,hzd,_⟩:=trodAll_nil r1
 subst hz ha1
 obtain rfl:args= #[v0,v1]:=by cases args;simp_all
 obtain⟨cs0,rfl,hc0⟩:=zcy 8 (show z47 Tryz.prog 8 92=some [.i .i16,.i .i16,.i .i16]from by kernel_rfl) (by kernel_rfl) (hval 0 92 v0 rfl rfl) h0
 simp only[CTs,CT.ok]at hc0
 obtain⟨_,_,rfl,⟨n0,rfl,_⟩,_,_,rfl,⟨m0,rfl,_⟩,_,_,rfl,⟨k0,rfl,_⟩,rfl⟩:=hc0
 obtain⟨l1,Im,hb1,him,rp1⟩:=zfr Tryz.underlying93 (by kernel_rfl) (by kernel_rfl) (okWide_slice Tryz.underlying93 (hval 1 93 v1 rfl rfl)) h1
 exact zbo Im him (z9Q n0 m0 k0 l1 hb1) ⟨_,_,rfl,zjB _ _,⟨_,_,rfl,rp1,rfl⟩⟩
end Go.Fw
