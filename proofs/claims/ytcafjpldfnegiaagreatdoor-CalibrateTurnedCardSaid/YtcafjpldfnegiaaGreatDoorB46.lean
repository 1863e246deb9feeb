/- A part of the proof that the law returns true for every input: an executor for the model's code, and what functions of the program compute. -/
import Derived.Test.YtcafjpldfnegiaaGreatDoorB15
import Derived.Test.YtcafjpldfnegiaaGreatDoorB43
import Derived.Test.YtcafjpldfnegiaaGreatDoorB45
import Derived.Deep.Slices
open Go
namespace Go.Fw
set_option maxRecDepth 100000
theorem zq9(a1 a2 a3 b1 b2 b3 e1 e2 e3 x y z:K):((a1*x+b1*y+e1*z)*(b2*e3-b3*e2)+(a2*x+b2*y+e2*z)*(b3*e1-b1*e3)+(a3*x+b3*y+e3*z)*(b1*e2-b2*e1))=(a1*(b2*e3-b3*e2)+a2*(b3*e1-b1*e3)+a3*(b1*e2-b2*e1))*x:=
 (show ∀ρ:Nat→K,((ρ 0*ρ 9+ρ 3*ρ 10+ρ 6*ρ 11)*(ρ 4*ρ 8-ρ 5*ρ 7)+(ρ 1*ρ 9+ρ 4*ρ 10+ρ 7*ρ 11)*(ρ 5*ρ 6-ρ 3*ρ 8)+(ρ 2*ρ 9+ρ 5*ρ 10+ρ 8*ρ 11)*(ρ 3*ρ 7-ρ 4*ρ 6))=(ρ 0*(ρ 4*ρ 8-ρ 5*ρ 7)+ρ 1*(ρ 5*ρ 6-ρ 3*ρ 8)+ρ 2*(ρ 3*ρ 7-ρ 4*ρ 6))*ρ 9 from fun ρ=>CR.ring ρ rfl) (CR.vr [a1,a2,a3,b1,b2,b3,e1,e2,e3,x,y,z])
theorem zpP(a1 a2 a3 b1 b2 b3 e1 e2 e3 x y z:K):(a1*((a2*x+b2*y+e2*z)*e3-(a3*x+b3*y+e3*z)*e2)+a2*((a3*x+b3*y+e3*z)*e1-(a1*x+b1*y+e1*z)*e3)+a3*((a1*x+b1*y+e1*z)*e2-(a2*x+b2*y+e2*z)*e1))=(a1*(b2*e3-b3*e2)+a2*(b3*e1-b1*e3)+a3*(b1*e2-b2*e1))*y:=
 (show ∀ρ:Nat→K,(ρ 0*((ρ 1*ρ 9+ρ 4*ρ 10+ρ 7*ρ 11)*ρ 8-(ρ 2*ρ 9+ρ 5*ρ 10+ρ 8*ρ 11)*ρ 7)+ρ 1*((ρ 2*ρ 9+ρ 5*ρ 10+ρ 8*ρ 11)*ρ 6-(ρ 0*ρ 9+ρ 3*ρ 10+ρ 6*ρ 11)*ρ 8)+ρ 2*((ρ 0*ρ 9+ρ 3*ρ 10+ρ 6*ρ 11)*ρ 7-(ρ 1*ρ 9+ρ 4*ρ 10+ρ 7*ρ 11)*ρ 6))=(ρ 0*(ρ 4*ρ 8-ρ 5*ρ 7)+ρ 1*(ρ 5*ρ 6-ρ 3*ρ 8)+ρ 2*(ρ 3*ρ 7-ρ 4*ρ 6))*ρ 10 from fun ρ=>CR.ring ρ rfl) (CR.vr [a1,a2,a3,b1,b2,b3,e1,e2,e3,x,y,z])
theorem zpN(a1 a2 a3 b1 b2 b3 e1 e2 e3 x y z:K):(a1*(b2*(a3*x+b3*y+e3*z)-b3*(a2*x+b2*y+e2*z))+a2*(b3*(a1*x+b1*y+e1*z)-b1*(a3*x+b3*y+e3*z))+a3*(b1*(a2*x+b2*y+e2*z)-b2*(a1*x+b1*y+e1*z)))=(a1*(b2*e3-b3*e2)+a2*(b3*e1-b1*e3)+a3*(b1*e2-b2*e1))*z:=
 (show ∀ρ:Nat→K,(ρ 0*(ρ 4*(ρ 2*ρ 9+ρ 5*ρ 10+ρ 8*ρ 11)-ρ 5*(ρ 1*ρ 9+ρ 4*ρ 10+ρ 7*ρ 11))+ρ 1*(ρ 5*(ρ 0*ρ 9+ρ 3*ρ 10+ρ 6*ρ 11)-ρ 3*(ρ 2*ρ 9+ρ 5*ρ 10+ρ 8*ρ 11))+ρ 2*(ρ 3*(ρ 1*ρ 9+ρ 4*ρ 10+ρ 7*ρ 11)-ρ 4*(ρ 0*ρ 9+ρ 3*ρ 10+ρ 6*ρ 11)))=(ρ 0*(ρ 4*ρ 8-ρ 5*ρ 7)+ρ 1*(ρ 5*ρ 6-ρ 3*ρ 8)+ρ 2*(ρ 3*ρ 7-ρ 4*ρ 6))*ρ 11 from fun ρ=>CR.ring ρ rfl) (CR.vr [a1,a2,a3,b1,b2,b3,e1,e2,e3,x,y,z])
theorem zd3(a b e x y z q:K):(a*x+1*(b*y+e*z)+a*q)=((a*x+b*y+e*z)*1+a*q):=
 (show ∀ρ:Nat→K,(ρ 0*ρ 3+1*(ρ 1*ρ 4+ρ 2*ρ 5)+ρ 0*ρ 6)=((ρ 0*ρ 3+ρ 1*ρ 4+ρ 2*ρ 5)*1+ρ 0*ρ 6)from fun ρ=>CR.ring ρ rfl) (CR.vr [a,b,e,x,y,z,q])
theorem z_y(c s:K):c*0-s*0=0:=
 (show ∀ρ:Nat→K,ρ 0*0-ρ 1*0=0 from fun ρ=>CR.ring ρ rfl) (CR.vr [c,s])
theorem z_z(c s:K):s*0+c*0=0:=
 (show ∀ρ:Nat→K,ρ 1*0+ρ 0*0=0 from fun ρ=>CR.ring ρ rfl) (CR.vr [c,s])
theorem z_l(p r:K):0*p+0*r=0:=
 (show ∀ρ:Nat→K,0*ρ 0+0*ρ 1=0 from fun ρ=>CR.ring ρ rfl) (CR.vr [p,r])
theorem zmV {s : S4} {z : V3} (hD : z2i s.a s.b s.c ≠ 0) (h : ∀ p : V3 → K, (p = V3.x ∨ p = V3.y ∨ p = V3.z) → p s.d = p s.a * z.x + p s.b * z.y + p s.c * z.z) :
    K.div (z2i s.d s.b s.c) (z2i s.a s.b s.c)=z.x∧K.div (z2i s.a s.d s.c) (z2i s.a s.b s.c)=z.y∧K.div (z2i s.a s.b s.d) (z2i s.a s.b s.c)=z.z:=by
 have e1:=h V3.x (.inl rfl)
 have e2:=h V3.y (.inr (.inl rfl))
 have e3:=h V3.z (.inr (.inr rfl))
 refine⟨K.div_eq hD ?_,K.div_eq hD ?_,K.div_eq hD ?_⟩
 · unfold z2i
   rw[e1,e2,e3]
   exact(zq9 s.a.x s.a.y s.a.z s.b.x s.b.y s.b.z s.c.x s.c.y s.c.z z.x z.y z.z).symm
 · unfold z2i
   rw[e1,e2,e3]
   exact(zpP s.a.x s.a.y s.a.z s.b.x s.b.y s.b.z s.c.x s.c.y s.c.z z.x z.y z.z).symm
 · unfold z2i
   rw[e1,e2,e3]
   exact(zpN s.a.x s.a.y s.a.z s.b.x s.b.y s.b.z s.c.x s.c.y s.c.z z.x z.y z.z).symm
theorem zpo{x y:K}(h:x-y=0):x=y:=by
 have e:x=(x-y)+y:=(show ∀ρ:Nat→K,ρ 0=(ρ 0-ρ 1)+ρ 1 from fun ρ=>CR.ring ρ rfl) (CR.vr [x,y])
 rw[h,K.zero_add]at e
 exact e
theorem z5X {l : List (Int × Int)} (h : K.sgn (z2i (Y9 l).a (Y9 l).b (Y9 l).c) ≠ 0) (p : V3 → K) (hp : p = V3.x ∨ p = V3.y ∨ p = V3.z) :
    p (Y9 l).d=p (Y9 l).a*(z2S l).x+p (Y9 l).b*(z2S l).y+p (Y9 l).c*(z2S l).z:=by
 have e:=zev h
 unfold S4.rest at e
 injection e with e1 e2 e3
 rcases hp with rfl|rfl|rfl
 · exact zpo e1
 · exact zpo e2
 · exact zpo e3
def z0x(q:Int)(x:Int×Int):Int×Int:=(x.1,x.2+q)
theorem zbY(c s q:K):S4.zero.turn c s q= .zero:=by
 have r:zgS c s ⟨0,0,0⟩=⟨0,0,0⟩:=V3.ext rfl (z_y c s) (z_z c s)
 have n: ∀p r:K,zbh ⟨0,0,0⟩ ⟨0,0,0⟩ p r=⟨0,0,0⟩:=fun p r=>V3.ext (z_l p r) (z_l p r) (z_l p r)
 unfold S4.turn S4.zero
 simp only
 rw[n,n,n,r]
theorem zdL(b q:Int)(l:List (Int×Int)): ∀s:S4,((l.map (z0x q)).map (z2f b)).foldl S4.step (s.turn (X9 b) (U0 b) (K.ofInt q))=(l.foldl S4.step s).turn (X9 b) (U0 b) (K.ofInt q):=by
 induction l with
 |nil=>intro s;rfl
 |cons x l ih=>
  intro s
  rw[List.map_cons,List.map_cons,List.foldl_cons,List.foldl_cons,←ih,←zcY]
  rfl
theorem z8f(b q:Int)(l:List (Int×Int)):Y9 ((l.map (z0x q)).map (z2f b))=(Y9 l).turn (X9 b) (U0 b) (K.ofInt q):=by
 unfold Y9
 rw[←zdL,zbY]
theorem z9z(b:Int)(q:K)(s:S4):z2i (s.turn (X9 b) (U0 b) q).a (s.turn (X9 b) (U0 b) q).b (s.turn (X9 b) (U0 b) q).c=z2i s.a s.b s.c:=by
 have h1:=zke (X9 b) (U0 b) s.a.x s.a.y s.a.z (zbh s.b s.c (X9 b) (-U0 b)).x (zbh s.b s.c (X9 b) (-U0 b)).y (zbh s.b s.c (X9 b) (-U0 b)).z (zbh s.b s.c (U0 b) (X9 b)).x (zbh s.b s.c (U0 b) (X9 b)).y (zbh s.b s.c (U0 b) (X9 b)).z
 have h2:=zha (X9 b) (U0 b) s.a.x s.a.y s.a.z s.b.x s.b.y s.b.z s.c.x s.c.y s.c.z
 rw[z5a,show K.ofInt 1=(1:K)from rfl,K.mul_one]at h1 h2
 exact h1.trans h2
theorem ziP:K.ofInt 1=(1:K):=rfl
theorem zeV (b q : Int) {l : List (Int × Int)} (h : K.sgn (z2i (Y9 l).a (Y9 l).b (Y9 l).c) ≠ 0) :
    z2S ((l.map (z0x q)).map (z2f b))=⟨(z2S l).x+K.ofInt q,X9 b*(z2S l).y-U0 b*(z2S l).z,U0 b*(z2S l).y+X9 b*(z2S l).z⟩:=by
 have hD:z2i (Y9 l).a (Y9 l).b (Y9 l).c≠0:=fun e=>h (K.sgn_zero.2 e)
 have n1:=z5X h V3.x (.inl rfl)
 have n2:=z5X h V3.y (.inr (.inl rfl))
 have n3:=z5X h V3.z (.inr (.inr rfl))
 have cs:=z5a b
 rw[ziP]at cs
 have t0:=zjJ (X9 b) (U0 b) (Y9 l).a.x (Y9 l).a.y (Y9 l).a.z (Y9 l).b.x (Y9 l).b.y (Y9 l).b.z (Y9 l).c.x (Y9 l).c.y (Y9 l).c.z (z2S l).x (z2S l).y (z2S l).z (K.ofInt q)
 have t1:=ziT (X9 b) (U0 b) (Y9 l).a.x (Y9 l).a.y (Y9 l).a.z (Y9 l).b.x (Y9 l).b.y (Y9 l).b.z (Y9 l).c.x (Y9 l).c.y (Y9 l).c.z (z2S l).x (z2S l).y (z2S l).z (K.ofInt q)
 have t2:=zgG (X9 b) (U0 b) (Y9 l).a.x (Y9 l).a.y (Y9 l).a.z (Y9 l).b.x (Y9 l).b.y (Y9 l).b.z (Y9 l).c.x (Y9 l).c.y (Y9 l).c.z (z2S l).x (z2S l).y (z2S l).z (K.ofInt q)
 rw[cs,zd3,←n1]at t0
 rw[cs,zd3,zd3,←n2,←n3]at t1
 rw[cs,zd3,zd3,←n2,←n3]at t2
 have hD':z2i ((Y9 l).turn (X9 b) (U0 b) (K.ofInt q)).a ((Y9 l).turn (X9 b) (U0 b) (K.ofInt q)).b ((Y9 l).turn (X9 b) (U0 b) (K.ofInt q)).c≠0:=by rw[z9z];exact hD
 obtain⟨f1,f2,f3⟩:=zmV (s:=(Y9 l).turn (X9 b) (U0 b) (K.ofInt q)) (z:=⟨(z2S l).x+K.ofInt q,X9 b*(z2S l).y-U0 b*(z2S l).z,U0 b*(z2S l).y+X9 b*(z2S l).z⟩) hD' (fun p hp=>by
  rcases hp with rfl|rfl|rfl
  · exact t0.symm
  · exact t1.symm
  · exact t2.symm)
 unfold z2S
 rw[z8f]
 exact V3.ext f1 f2 f3
end Go.Fw
open Go
namespace Go.Fw
set_option maxRecDepth 100000
theorem z98{l:List (Int×Int)}(hl:l.length≤48)(h: ∀k (hk:k<l.length),-10000≤l[k].2∧l[k].2≤10000):z4w l=true:=by
 unfold z4w
 rw[decide_eq_true hl,Bool.true_and,List.all_eq_true]
 intro x hx
 obtain⟨k,hk,rfl⟩:=List.getElem_of_mem hx
 exact decide_eq_true (h k hk)
theorem q_b(n:Int): -100≤n.tmod 101∧n.tmod 101≤100:=by
 have h1:=Int.tmod_lt_of_pos n (show(0:Int)<101 by decide)
 have h2:=Int.lt_tmod_of_pos n (show(0:Int)<101 by decide)
 omega
theorem zeC{l:List (Int×Int)}{q:Int}(hl:l.length≤12)(h: ∀k (hk:k<l.length),-9900≤l[k].2∧l[k].2≤9900)(hq: -100≤q∧q≤100):z4w (l.map (z0x q))=true:=by
 refine z98 (by rw[List.length_map];omega) fun k hk=>?_
 have hk':k<l.length:=by simpa using hk
 have e:(l.map (z0x q))[k]=z0x q l[k]:=List.getElem_map _
 rw[e]
 have:=h k hk'
 unfold z0x
 simp only
 omega
theorem zdE{l:List (Int×Int)}{b:Int}(g:z4w l=true):z4w (l.map (z2f b))=true:=by
 obtain⟨h1,h2⟩:=z8w g
 refine z98 (by rw[List.length_map];omega) fun k hk=>?_
 have hk':k<l.length:=by simpa using hk
 have e:(l.map (z2f b))[k]=z2f b l[k]:=List.getElem_map _
 rw[e]
 exact h2 k hk'
theorem zfH{l:List (Int×Int)}(b:Int)(g:z4w l=true):z2m l b=(l.map (z2f b),0):=by
 unfold z2m
 rw[g];rfl
theorem zfT(b q:Int)(l:List (Int×Int)):z2i (Y9 ((l.map (z0x q)).map (z2f b))).a (Y9 ((l.map (z0x q)).map (z2f b))).b (Y9 ((l.map (z0x q)).map (z2f b))).c=z2i (Y9 l).a (Y9 l).b (Y9 l).c:=by
 rw[z8f,z9z]
theorem z9J{l:List (Int×Int)}(g:z4w l=true)(h:K.sgn (z2i (Y9 l).a (Y9 l).b (Y9 l).c)=0):z2a l=(.zero,20):=by
 unfold z2a
 rw[g,if_pos rfl,if_pos h]
theorem z8A{l:List (Int×Int)}(g:z4w l=true)(h:K.sgn (z2i (Y9 l).a (Y9 l).b (Y9 l).c)≠0):z2a l=(kv (z2S l),0):=by
 unfold z2a
 rw[g,if_pos rfl,if_neg h]
theorem zir(x y c s:K):x*c-y*s=c*x-s*y:=(show ∀ρ:Nat→K,ρ 0*ρ 2-ρ 1*ρ 3=ρ 2*ρ 0-ρ 3*ρ 1 from fun ρ=>CR.ring ρ rfl) (CR.vr [x,y,c,s])
theorem zhh(x y c s:K):x*s+y*c=s*x+c*y:=(show ∀ρ:Nat→K,ρ 0*ρ 3+ρ 1*ρ 2=ρ 3*ρ 0+ρ 2*ρ 1 from fun ρ=>CR.ring ρ rfl) (CR.vr [x,y,c,s])
theorem zoF(m:V3)(q b:Int):rTu ⟨(kv m).y,(kv m).z,z3c (kv m).x (oN q)⟩ b=kv ⟨X9 b*m.y-U0 b*m.z,U0 b*m.y+X9 b*m.z,m.x+K.ofInt q⟩:=by
 have e:toV ⟨(kv m).y,(kv m).z,z3c (kv m).x (oN q)⟩=some ⟨m.y,m.z,m.x+K.ofInt q⟩:=by
  rw[show z3c (kv m).x (oN q)=kN (m.x+K.ofInt q) by rw[zgx];exact zmJ _ _]
  exact z7N _ _ _
 unfold rTu
 rw[e]
 unfold zmm
 simp only
 rw[zir,zhh]
theorem zar (l : List (Int × Int)) (b' q : Int) (hl : l.length ≤ 12) (h : ∀ k (hk : k < l.length), -9900 ≤ l[k].2 ∧ l[k].2 ≤ 9900) (hq : -100 ≤ q ∧ q ≤ 100) :
    Ok P 12 (loopHead P 12 0) ⟨J2 111 [(0, .cv (rdV l)), (1, .cv (.lit (.int .i16 b'))), (7, .cv (j5 q)), (8, .sl 0 0 (l.map (z0x q)).length 2), (29, .cv (rdV l)), (30, .cv (j5 l.length)), (31, .cv (j5 l.length))], [some (own (flat rdL (l.map (z0x q))))]⟩ (.of (· = .lit (.bool true))) := by
 have gl:z4w l=true:=z98 (by omega) fun k hk=>by have:=h k hk;omega
 have gm:=zeC hl h hq
 have gt:=zdE (b:=IntKind.i64.wrap b') gm
 have tv:=zfH (IntKind.i64.wrap b') gm
 have hm:(l.map (z0x q)).length≤12:=by rw[List.length_map];exact hl
 have ht:(z2m (l.map (z0x q)) (IntKind.i64.wrap b')).1.length≤12:=by rw[tv];show(List.map _ _).length≤12;rw[List.length_map];exact hm
 have o5:List.take ((l.map (z0x q)).length*2) (List.drop 0 (own (flat rdL (l.map (z0x q)))))=List.map MV.cv (flat rdL (l.map (z0x q))):=by
  rw[List.drop_zero,List.take_of_length_le (by simp[own,z1e z0E])];rfl
 have hd:=zfT (IntKind.i64.wrap b') q l
 by_cases hs:K.sgn (z2i (Y9 l).a (Y9 l).b (Y9 l).c)=0
 · have e1:=z9J gl hs
   have e2:=z9J gt (by rw[hd];exact hs)
   refine znX l _ b' q l.length (decide_eq_false (by omega)) (by rw[e1];rfl) (by rw[tv];rfl) (by omega) hl (by omega) ht o5 ?_
   show CV.lit _=CV.lit _
   rw[tv]
   simp only
   rw[e1,e2];rfl
 · have e1:=z8A gl hs
   have e2:=z8A gt (by rw[hd];exact hs)
   have hz:=zno gl hl
   obtain⟨z1,z2,z3⟩:=hz
   have so:=ziE (n:=q) (by omega) (by omega)
   have ft:=zeV (IntKind.i64.wrap b') q hs
   have rx:(kv (z2S l)).x.raw 8000=true:=z33 z1
   refine znT l _ b' q l.length (decide_eq_false (by omega)) (by rw[e1];rfl) (by rw[tv];rfl) (by rw[tv];simp only;rw[e2];rfl) (by omega) hl (by omega) ht (by omega) ?_ (zbB (Nat.le_trans so (by decide))) ?_ o5 ?_
   · rw[e1];exact RN.raw_mono rx (by decide)
   · rw[e1]
     exact z0a.2 ⟨RN.raw_mono (z33 z2:(kv (z2S l)).y.raw 8000=true) (by decide),RN.raw_mono (z33 z3:(kv (z2S l)).z.raw 8000=true) (by decide),RN.raw_mono (zei rx (zbB so)) (by decide)⟩
   · show CV.lit _=CV.lit _
     rw[tv]
     simp only
     rw[e1,e2]
     simp only
     rw[zoF,ft]
     have self: ∀x:RN,rnB x x=true:=fun x=>zcz.2 rfl
     show CV.lit (.bool (rnB (kN _) (kN _)&&(rnB (kN _) (kN _)&&(rnB (kN _) (kN _)&&true))))=_
     rw[self,self,self];rfl
end Go.Fw
open Go
namespace Go.Fw
set_option maxRecDepth 100000
theorem z9r(l:List (Int×Int))(b' more:Int):PCall P 12 [rdV l,.lit (.int .i16 b'),.lit (.int .i8 more)] (.lit (.bool true)):=by
 cases g:decide ((l.length:Int)>12)
 case true=>exact zoE l b' more g
 have hl:l.length≤12:=by have:=of_decide_eq_false g;omega
 have hq:=q_b (IntKind.i64.wrap more)
 refine zoc l b' more g (R := (· = _)) ?_
 generalize (IntKind.i64.wrap more).tmod 101=q at hq ⊢
 cases l with
 |nil=>
  refine znE [] b' q 0 rfl (by rw[z6Z];rfl) (by decide) (by decide) ?_
  rw[z6Z];rfl
 |cons x t=>
  generalize hx:x::t=l at*
  have hne:l≠[]:=by rw[←hx];exact List.cons_ne_nil _ _
  have key:=z6Y (s:=2) l (fun x=>rdL (z0x q x)) (fun _=>rfl) (fun k o=>(∀j (hj:j<l.length),j<k→ -9900≤l[j].2∧l[j].2≤9900)→Ok P 12 (loopHead P 12 0) (match o with
   |none=>⟨J2 111 [(0,.cv (rdV l)),(1,.cv (.lit (.int .i16 b'))),(7,.cv (j5 q)),(8,.cv (.lit (.slice none 0 0))),(29,.cv (rdV l)),(30,.cv (j5 l.length)),(31,.cv (j5 k))],[]⟩
   | some (c, out) => ⟨J2 111 [(0, .cv (rdV l)), (1, .cv (.lit (.int .i16 b'))), (7, .cv (j5 q)), (8, .sl 0 0 c 2), (29, .cv (rdV l)), (30, .cv (j5 l.length)), (31, .cv (j5 k))], [some (own out)]⟩) (.of (· = .lit (.bool true)))) ?_ ?_ hne ?_
  · exact key (fun j _ hj=>absurd hj (Nat.not_lt_zero j))
  · intro k hk h hin
    have b:(0:Int)≤(k:Int)∧(k:Int)<(l.length:Int):=by omega
    have i1:=decide_eq_true b.2
    have gt:=z0X z0E hk
    by_cases h1:l[k].2>9900
    · exact zl6 l b' q k l[k].1 l[k].2 i1 (decide_eq_true h1) b gt rfl
    by_cases h2:l[k].2< -9900
    · exact znb l b' q k l[k].1 l[k].2 i1 (decide_eq_false h1) (decide_eq_true h2) b gt rfl
    refine zlF l b' q k l[k].1 l[k].2 i1 (decide_eq_false h1) (decide_eq_false h2) b gt rfl ?_
    rw[w64 (n:=(k:Int)+1) (by omega),w64 (n:=l[k].2+q) (by omega)]
    refine h fun j hj hjk=>?_
    rcases Nat.lt_succ_iff_lt_or_eq.1 hjk with h3|rfl
    · exact hin j hj h3
    · omega
  · intro k hk c out hc ho h hin
    have b:(0:Int)≤(k:Int)∧(k:Int)<(l.length:Int):=by omega
    have i1:=decide_eq_true b.2
    have gt:=z0X z0E hk
    by_cases h1:l[k].2>9900
    · exact znn l b' q k l[k].1 l[k].2 c out i1 (decide_eq_true h1) b gt rfl
    by_cases h2:l[k].2< -9900
    · exact zkS l b' q k l[k].1 l[k].2 c out i1 (decide_eq_false h1) (decide_eq_true h2) b gt rfl
    refine zo8 l b' q k l[k].1 l[k].2 c out i1 (decide_eq_false h1) (decide_eq_false h2) b gt (by omega) (by omega) (by simp[own,ho]) (by simp[zaa,MV.one]) (zbZ _ [_,_]) rfl ?_
    rw[w64 (n:=(k:Int)+1) (by omega),w64 (n:=l[k].2+q) (by omega)]
    have h2:=h fun j hj hjk=>by
     rcases Nat.lt_succ_iff_lt_or_eq.1 hjk with h3|rfl
     · exact hin j hj h3
     · omega
    have h3 : Ok P 12 (loopHead P 12 0) ⟨J2 111 [(0, .cv (rdV l)), (1, .cv (.lit (.int .i16 b'))), (7, .cv (j5 q)), (8, .sl 0 0 (c + 1) 2), (29, .cv (rdV l)), (30, .cv (j5 l.length)), (31, .cv (j5 ((k + 1 : Nat) : Int)))], [some (own (out ++ rdL (z0x q l[k])))]⟩ (.of (· = .lit (.bool true))) := h2
    rw[z8Z]at h3
    exact h3
  · intro hin
    have h4:=zar l b' q hl (fun k hk=>hin k hk hk) hq
    rw[z7X,List.length_map]at h4
    exact h4
end Go.Fw
open Go
namespace Go.Fw
theorem zak(l:List (Int×Int))(b:Int)(_:(Lit.int .i16 b).wf=true)(m:Int)(_:(Lit.int .i8 m).wf=true):PCall P 12 [rdV l,.lit (.int .i16 b),.lit (.int .i8 m)] (.lit (.bool true)):=z9r l b m
end Go.Fw
open Go Go.Proofs Go.Proofs.YtcafjpldfnegiaaGreatDoor
namespace Go.Fw
open Go.ChangeShapes Go.WideShapes Go.ChangeAt Go.RowKit
set_option maxRecDepth 100000
theorem zaq{α:Type}[Inhabited α] {n:Nat}{q:Nat→α→Prop}(h: ∀i,i<n→ ∃x,q i x): ∃f:Nat→α,∀i,i<n→q i (f i):=
 ⟨fun i=>if hi:i<n then(h i hi).choose else default,fun i hi=>by simp only[dif_pos hi];exact(h i hi).choose_spec⟩
theorem z6m {w : World} {base : Nat} {a : Addr} {n : Nat} {cs : List Value} (h : w.cells? base a n = some cs) (hn : 0 < n) :
    a.spot=none∧ ∃c T fz,w.heap[a.block]?=some (.cells c T fz)∧(c.toList.drop a.off).take n=cs:=by
 obtain⟨_,hlen,hi⟩:=World.cells?_some h
 have h0:=hi 0 hn
 have e0:a.add 0=a:=rfl
 rw[e0]at h0
 unfold World.cell? at h0
 split at h0
 · rename_i c T fz hc
   split at h0
   · rw[List.getElem?_eq_getElem (by omega)]at h0;cases h0
   · rename_i hs
     have hspot:a.spot=none:=by cases e:a.spot with|none=>rfl|some s=>rw[e]at hs;exact absurd rfl hs
     refine⟨hspot,c,T,fz,hc,?_⟩
     refine List.ext_getElem? fun i=>?_
     by_cases hin:i<n
     · rw[List.getElem?_take_of_lt hin,List.getElem?_drop,←hi i hin]
       unfold World.cell? Addr.add
       by_cases hi0:i=0
       · subst hi0
         rw[if_pos rfl,hc]
         simp[hspot]
       · rw[if_neg hi0,hc]
         simp
     · rw[List.getElem?_eq_none (by rw[List.length_take];omega),List.getElem?_eq_none (by omega)]
 · rw[List.getElem?_eq_getElem (by omega)]at h0;cases h0
def zjy(b:Nat)(cs:List Value):Imm:=fun k=>if k=b then some cs else none
theorem z9F(Im:Imm): ∀l:List Value,CV.repL Im (l.map .lit) l
 | []=>by simp only[List.map_nil,CV.repL]
 |x::l=>by
  simp only[List.map_cons,CV.repL]
  exact⟨x,l,rfl,by simp only[CV.rep],z9F Im l⟩
def zoO(x:Int×Int):List Value:=[.int .i64 x.1,.int .i64 x.2]
theorem zcD(l:List (Int×Int)):flat rdL l=(l.flatMap zoO).map .lit:=by
 induction l with
 |nil=>rfl
 |cons x l ih=>rw[z1N,ih,List.flatMap_cons,List.map_append];rfl
theorem z9l(a:Addr)(n:Nat):(a.add n).block=a.block∧(a.add n).off=a.off+n:=by
 unfold Addr.add
 split
 · rename_i h;subst h;exact⟨rfl,rfl⟩
 · exact⟨rfl,rfl⟩
section
variable{H:Type}{enc:TypeId×Value→H}{W:World}{base:Nat}{sp:Nat→Bool}{hd:Bool}
theorem zeO {t e : TypeId} {v : Value} {d : DataW H} {ps : List MemPlace} (hu : Tryz.prog.underlying t = some (.slice e)) (he : z6u Tryz.prog 8 e = some [.i .i64, .i .i64]) (hc : Tryz.prog.cellsOf e = 2) (hv : ∃ a len cap, v = .slice a len cap) (h : DataW.Trod enc Tryz.prog W base sp hd t v d ps) :
    ∃l:List (Int×Int),∃Im:Imm,ImOk Im W∧(rdV l).rep Im v:=by
 obtain⟨fuel,hx⟩:=h
 obtain⟨a0,len0,cap0,rfl⟩:=hv
 rcases Deep.open_slice hu hx with⟨h1,_⟩|⟨a,len,cap,m,n,D,Pl,h1,hb,hl,hm,hmm,_,hel⟩
 · simp only[Value.cells,List.cons.injEq,and_true]at h1
   injection h1 with e1 e2 e3
   subst e1 e2 e3
   refine⟨[],fun _=>none,(fun b cs hb=>by cases hb),?_⟩
   unfold rdV CV.rep
   exact⟨none,0,rfl,Nat.le_refl _,.inl ⟨rfl,rfl⟩⟩
 · simp only[Value.cells,List.cons.injEq,and_true]at h1
   injection h1 with e1 e2 e3
   subst e1
   obtain rfl:=e2.symm
   obtain rfl:=e3.symm
   have hlm:len≤m:=by rw[hmm];split<;>omega
   rw[hc]at hel
   obtain⟨f,hf⟩:=zaq (α:=Int×Int) (n:=len) (q:=fun i x=>W.cells? base (a.add (i*2)) 2=some (zoO x)) (fun i hi=>by
    obtain⟨cs,k1,k2⟩:=hel i (by omega)
    have k3:=z5S 8 n e cs _ _ k2 he
    simp only[CTs,CT.ok]at k3
    obtain⟨_,_,rfl,⟨x,rfl,_⟩,_,_,rfl,⟨y,rfl,_⟩,rfl⟩:=k3
    exact⟨(x,y),k1⟩)
   by_cases h0:len=0
   · subst h0
     refine⟨[],fun _=>none,(fun b cs hb=>by cases hb),?_⟩
     unfold rdV CV.rep
     exact⟨some a,cap,rfl,hl,.inl ⟨rfl,rfl⟩⟩
   · obtain⟨hs,c,T,fz,hcell,_⟩:=z6m (hf 0 (by omega)) (by decide)
     rw[(z9l a (0*2)).1]at hcell
     have hs':a.spot=none:=hs
     have step: ∀k,k<len→(c.toList.drop (a.off+k*2)).take 2=zoO (f k):=fun k hk=>by
      obtain⟨_,c',T',fz',h2,h3⟩:=z6m (hf k hk) (by decide)
      rw[(z9l a (k*2)).1,hcell]at h2
      injection h2 with h2
      injection h2 with h2
      subst h2
      rw[(z9l a (k*2)).2]at h3
      exact h3
     have all: ∀k,k≤len→(c.toList.drop a.off).take (k*2)=((List.range k).map f).flatMap zoO:=by
      intro k
      induction k with
      |zero=>intro _;simp
      |succ k ih=>
       intro hk
       rw[List.range_succ,List.map_append,List.flatMap_append,←ih (by omega),Nat.succ_mul,List.take_add,List.drop_drop,step k (by omega)]
       simp
     refine⟨(List.range len).map f,zjy a.block c.toList,?_,?_⟩
     · intro b cs hbb
       unfold zjy at hbb
       split at hbb
       · rename_i hbe
         subst hbe
         injection hbb with hbb
         exact⟨c,T,fz,hcell,hbb⟩
       · cases hbb
     · unfold rdV CV.rep
       have hlen:(flat rdL ((List.range len).map f)).length=len*2:=by rw[z1e z0E,List.length_map,List.length_range]
       refine⟨some a,cap,by rw[List.length_map,List.length_range],by rw[List.length_map,List.length_range];exact hl,.inr ⟨a.block,a.off,c.toList,?_,?_,?_⟩⟩
       · rw[←hs']
       · unfold zjy;rw[if_pos rfl]
       · rw[hlen,all len (Nat.le_refl _),zcD]
         exact z9F _ _
end
theorem zcN {f : FuncId} {cs : List CV} {W : World} {args : Array Value} (Im : Imm) (him : ImOk Im W) (h : PCall P f cs (.lit (.bool true))) (ha : CV.repL Im cs args.toList) :
    Calls Tryz.prog f args W fun e W'=>e= .returned (.bool true)∧Below W.heap.size W W':=by
 refine(h Im W args him ha).mono ?_
 rintro e W' ⟨y,v,I',rfl,rfl,hv,_,_,hb,_⟩
 simp only[CV.rep]at hv
 subst hv
 exact⟨rfl,hb⟩
end Go.Fw
open Go Go.Proofs Go.Proofs.YtcafjpldfnegiaaGreatDoor
namespace Go.Fw
open Go.ChangeShapes Go.WideShapes Go.ChangeAt Go.RowKit
set_option maxRecDepth 100000
theorem zcW {H : Type} {enc : TypeId × Value → H} (W : World) (base : Nat) (args : Array Value) (ds gs : List (DataW H)) (before : List MemPlace)
    (hval: ∀(j:Nat) t v,Tryz.f12.params[j]?=some t→args[j]?=some v→Value.okWide Tryz.prog W .any base t v)
    (hW:DataW.Whole enc Tryz.prog Tryz.f12.params.toList Rows.calibrateTurnedSpec.vars false W args.toList ds gs before):
    Calls Tryz.prog 12 args W fun e W'=>e= .returned (.bool true)∧Below W.heap.size W W':=by
 obtain⟨p,q,hA,hV,_,_,_⟩:=hW
 rw[Tryz.params12]at hA hval
 obtain⟨v0,vs0,d0,ds0,p0,q0,ha0,hd0,_,h0,r0⟩:=trodAll_cons hA
 obtain⟨v1,vs1,d1,ds1,p1,q1,ha1,hd1,_,h1,r1⟩:=trodAll_cons r0
 obtain⟨v2,vs2,d2,ds2,p2,q2,ha2,hd2,_,h2,r2⟩:=trodAll_cons r1
 obtain⟨hz,hzd,_⟩:=trodAll_nil r2
 subst hz ha2 ha1
 obtain rfl:args= #[v0,v1,v2]:=by cases args;simp_all
 obtain⟨l0,Im,him,rp0⟩:=zeO Tryz.underlying68 (by kernel_rfl) (by kernel_rfl) (okWide_slice Tryz.underlying68 (hval 0 68 v0 rfl rfl)) h0
 obtain⟨n1,rfl,_,_,hw1⟩:=open_int Tryz.underlying82 (hval 1 82 v1 rfl rfl) h1
 obtain⟨n2,rfl,_,_,hw2⟩:=open_int Tryz.underlying42 (hval 2 42 v2 rfl rfl) h2
 exact zcN Im him (zak l0 n1 hw1 n2 hw2) ⟨_,_,rfl,rp0,⟨_,_,rfl,rfl,⟨_,_,rfl,rfl,rfl⟩⟩⟩
end Go.Fw
