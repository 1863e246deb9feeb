/- A part of the proof that the law returns true for every input: an executor for the model's code, and what functions of the program compute. -/
import Derived.Test.YtcafjpldfnegiaaGreatDoorB11
import Derived.Test.YtcafjpldfnegiaaGreatDoorB15
import Derived.Test.YtcafjpldfnegiaaGreatDoorB41
import Derived.Test.YtcafjpldfnegiaaGreatDoorB44
import Derived.KernelRfl
open Go IntKind
namespace Go.Fw
set_option maxRecDepth 100000
theorem zoE(l:List (Int×Int))(by' more:Int)(g:decide ((↑l.length:Int)>12)=true):PCall P 12 [rdV l,.lit (.int .i16 by'),.lit (.int .i8 more)] (.lit (.bool true)):=
 j6 (.r 1 (z97) (.b 8 g (.r 9 (z97) .nil))) (by kernel_rfl)
theorem zoc(l:List (Int×Int))(by' more:Int)(g:decide ((↑l.length:Int)>12)=false){R:CV→Prop}(hR:Ok P 12 (loopHead P 12 0) ⟨J2 111 [(0,.cv (.lst l.length (flat rdL l))),(1,.cv (.lit (.int .i16 by'))),(7,.cv (.lit (.int .i64 ((i64.wrap more).tmod 101)))),(8,.cv (CV.lit (Value.slice none 0 0))),(29,.cv (.lst l.length (flat rdL l))),(30,.cv (.lit (.int .i64 (↑l.length:Int)))),(31,.cv (.lit (.int .i64 0)))],[]⟩ (.of R)):W6 P 12 [rdV l,.lit (.int .i16 by'),.lit (.int .i8 more)] R:=
 Y3 (keep:=[0,1,7,8,29,30,31]) (σ:=[]) (.r 1 (z97) (.b 8 g (.c (nz 101) (.o 17 .stop .nil)))) (by kernel_rfl) rfl hR .nil
theorem zgp(l:List (Int×Int))(b:Int)(g:z4w l=true)(s3_0:l.length<2^30){R:CV→Prop}(hR:Ok P 67 (loopHead P 67 0) ⟨J2 33 [(1,.cv (.lit (.int .i64 b))),(6,.cv (CV.lit (Value.slice none 0 0))),(12,.cv (.lst l.length (flat rdL l))),(13,.cv (.lit (.int .i64 (↑l.length:Int)))),(14,.cv (.lit (.int .i64 0)))],[]⟩ (.of R)):W6 P 67 [rdV l,j5 b] R:=
 Y3 (keep:=[1,6,12,13,14]) (σ:=[]) (.r 3 ((z72 (l) s3_0).eqB g) (.o 10 .stop .nil)) (by kernel_rfl) rfl hR .nil
theorem zik(l:List (Int×Int))(b:Int)(g:z4w l=false)(s3_0:l.length<2^30):PCall P 67 [rdV l,j5 b] (.tup [CV.lit (Value.slice none 0 0),.lit (.int .i64 1)]):=
 j6 (.r 3 ((z72 (l) s3_0).eqB g) .nil) (by kernel_rfl)
theorem ziB(l:List (Int×Int))(b k mi mo:Int)(h1:decide (k<(↑l.length:Int))=true)(o1:(0:Int)≤k∧k<(↑l.length:Int))(o2:List.take 2 (List.drop (k.toNat*2) (flat rdL l))=[.lit (.int .i64 mi),.lit (.int .i64 mo)]){R:Goal}(hn:J0 R.n [5]=true)(hR:Ok P 67 (loopHead P 67 0) ⟨J2 33 [(1,.cv (.lit (.int .i64 b))),(6,.sl 0 0 1 2),(12,.cv (.lst l.length (flat rdL l))),(13,.cv (.lit (.int .i64 (↑l.length:Int)))),(14,.cv (.lit (.int .i64 (i64.wrap (k+1)))))],[some [.cv (.lit (.int .i64 (i64.wrap (mi%24+b%24)%24))),.cv (.lit (.int .i64 mo))]]⟩ R):Ok P 67 (loopHead P 67 0) ⟨J2 33 [(1,.cv (j5 b)),(6,.cv (CV.lit (Value.slice none 0 0))),(12,.cv (rdV l)),(13,.cv (j5 (↑l.length:Int))),(14,.cv (j5 k))],[]⟩ R:=
 z0C (keep:=[1,6,12,13,14]) (σ:=[5]) (.b 2 h1 (.c o1 (.c o2 (.c (eqn 2) (.c (lq 2 2) (.c (z0f (mi)) (.c (z0f (b)) (.c (z0f (i64.wrap (mi%24+b%24))) (.c (lq 16 1099511627776) (.c (lq 1 1099511627776) (.c (show 0<1 from by decide) (.c (eqn 2) (.o 4 (.r (.agg [.lit (.int .i64 mi),.lit (.int .i64 mo)])) (.o 10 (.r (.lit (.int .i64 (mi%24)))) (.o 12 (.r (.lit (.int .i64 (b%24)))) (.o 14 (.r (.lit (.int .i64 (i64.wrap (mi%24+b%24)%24)))) (.o 23 .stop .nil))))))))))))))))) (by kernel_rfl) rfl hn hR (.cons (by simp[CvL]) .nil)
theorem zit(l:List (Int×Int))(b k _mi _mo:Int)(h1:decide (k<(↑l.length:Int))=false){R:Goal}(hR:R.c (.tup [CV.lit (Value.slice none 0 0),.lit (.int .i64 0)])):Ok P 67 (loopHead P 67 0) ⟨J2 33 [(1,.cv (j5 b)),(6,.cv (CV.lit (Value.slice none 0 0))),(12,.cv (rdV l)),(13,.cv (j5 (↑l.length:Int))),(14,.cv (j5 k))],[]⟩ R:=
 okT (.b 2 h1 .nil) (by kernel_rfl) hR
theorem zjY(l:List (Int×Int))(b k mi mo:Int)(c:Nat)(out:List CV)(h1:decide (k<(↑l.length:Int))=true)(o1:(0:Int)≤k∧k<(↑l.length:Int))(o2:List.take 2 (List.drop (k.toNat*2) (flat rdL l))=[.lit (.int .i64 mi),.lit (.int .i64 mo)])(o8:(c+1)*16≤1099511627776)(o9:c+1≤1099511627776)(o10:(own out).length=c*2)(o11:zaa [.cv (.lit (.int .i64 (i64.wrap (mi%24+b%24)%24))),.cv (.lit (.int .i64 mo))])(o13:CvL (own out++[.cv (.lit (.int .i64 (i64.wrap (mi%24+b%24)%24))),.cv (.lit (.int .i64 mo))])){R:Goal}(hn:J0 R.n [6]=true)(hR:Ok P 67 (loopHead P 67 0) ⟨J2 33 [(1,.cv (.lit (.int .i64 b))),(6,.sl 0 0 (c+1) 2),(12,.cv (.lst l.length (flat rdL l))),(13,.cv (.lit (.int .i64 (↑l.length:Int)))),(14,.cv (.lit (.int .i64 (i64.wrap (k+1)))))],[some (own out++[.cv (.lit (.int .i64 (i64.wrap (mi%24+b%24)%24))),.cv (.lit (.int .i64 mo))])]⟩ R):Ok P 67 (loopHead P 67 0) ⟨J2 33 [(1,.cv (j5 b)),(6,.sl 0 0 c 2),(12,.cv (rdV l)),(13,.cv (j5 (↑l.length:Int))),(14,.cv (j5 k))],[some (own out)]⟩ R:=
 z0C (keep:=[1,6,12,13,14]) (σ:=[6]) (.b 2 h1 (.c o1 (.c o2 (.c (eqn 2) (.c (lq 2 2) (.c (z0f (mi)) (.c (z0f (b)) (.c (z0f (i64.wrap (mi%24+b%24))) (.c o8 (.c o9 (.c o10 (.c o11 (.c (eqn 2) (.o 4 (.r (.agg [.lit (.int .i64 mi),.lit (.int .i64 mo)])) (.o 10 (.r (.lit (.int .i64 (mi%24)))) (.o 12 (.r (.lit (.int .i64 (b%24)))) (.o 14 (.r (.lit (.int .i64 (i64.wrap (mi%24+b%24)%24)))) (.o 23 .stop .nil)))))))))))))))))) (by kernel_rfl) rfl hn hR (.cons o13 .nil)
theorem zij(l:List (Int×Int))(b k _mi _mo:Int)(c:Nat)(out:List CV)(h1:decide (k<(↑l.length:Int))=false)(o1:List.take (c*2) (List.drop 0 (own out))=List.map MV.cv out){R:Goal}(hR:R.c (.tup [.lst c out,.lit (.int .i64 0)])):Ok P 67 (loopHead P 67 0) ⟨J2 33 [(1,.cv (j5 b)),(6,.sl 0 0 c 2),(12,.cv (rdV l)),(13,.cv (j5 (↑l.length:Int))),(14,.cv (j5 k))],[some (own out)]⟩ R:=
 okT (.b 2 h1 (.c o1 (.o 6 (.r (CV.lit undef) [out]) .nil))) (by kernel_rfl) hR
theorem zl6(l:List (Int×Int))(b' q k mi mo:Int)(h:decide (k<(↑l.length:Int))=true)(h1:decide (mo>9900)=true)(o1:(0:Int)≤k∧k<(↑l.length:Int))(o2:List.take 2 (List.drop (k.toNat*2) (flat rdL l))=[.lit (.int .i64 mi),.lit (.int .i64 mo)]){R:Goal}(hR:R.c (.lit (.bool true))):Ok P 12 (loopHead P 12 0) ⟨J2 111 [(0,.cv (rdV l)),(1,.cv (.lit (.int .i16 b'))),(7,.cv (j5 q)),(8,.cv (CV.lit (Value.slice none 0 0))),(29,.cv (rdV l)),(30,.cv (j5 (↑l.length:Int))),(31,.cv (j5 k))],[]⟩ R:=
 okT (.b 2 h (.c o1 (.c o2 (.c (eqn 2) (.c (lq 2 2) (.o 4 (.r (.agg [.lit (.int .i64 mi),.lit (.int .i64 mo)])) (.b 10 h1 .nil))))))) (by kernel_rfl) hR
theorem znb(l:List (Int×Int))(b' q k mi mo:Int)(h:decide (k<(↑l.length:Int))=true)(h1:decide (mo>9900)=false)(h2:decide (mo<(-9900:Int))=true)(o1:(0:Int)≤k∧k<(↑l.length:Int))(o2:List.take 2 (List.drop (k.toNat*2) (flat rdL l))=[.lit (.int .i64 mi),.lit (.int .i64 mo)]){R:Goal}(hR:R.c (.lit (.bool true))):Ok P 12 (loopHead P 12 0) ⟨J2 111 [(0,.cv (rdV l)),(1,.cv (.lit (.int .i16 b'))),(7,.cv (j5 q)),(8,.cv (CV.lit (Value.slice none 0 0))),(29,.cv (rdV l)),(30,.cv (j5 (↑l.length:Int))),(31,.cv (j5 k))],[]⟩ R:=
 okT (.b 2 h (.c o1 (.c o2 (.c (eqn 2) (.c (lq 2 2) (.o 4 (.r (.agg [.lit (.int .i64 mi),.lit (.int .i64 mo)])) (.b 10 h1 (.b 15 h2 .nil)))))))) (by kernel_rfl) hR
theorem zlF(l:List (Int×Int))(b' q k mi mo:Int)(h:decide (k<(↑l.length:Int))=true)(h1:decide (mo>9900)=false)(h2:decide (mo<(-9900:Int))=false)(o1:(0:Int)≤k∧k<(↑l.length:Int))(o2:List.take 2 (List.drop (k.toNat*2) (flat rdL l))=[.lit (.int .i64 mi),.lit (.int .i64 mo)]){R:Goal}(hn:J0 R.n [2]=true)(hR:Ok P 12 (loopHead P 12 0) ⟨J2 111 [(0,.cv (.lst l.length (flat rdL l))),(1,.cv (.lit (.int .i16 b'))),(7,.cv (.lit (.int .i64 q))),(8,.sl 0 0 1 2),(29,.cv (.lst l.length (flat rdL l))),(30,.cv (.lit (.int .i64 (↑l.length:Int)))),(31,.cv (.lit (.int .i64 (i64.wrap (k+1)))))],[some [.cv (.lit (.int .i64 mi)),.cv (.lit (.int .i64 (i64.wrap (mo+q))))]]⟩ R):Ok P 12 (loopHead P 12 0) ⟨J2 111 [(0,.cv (rdV l)),(1,.cv (.lit (.int .i16 b'))),(7,.cv (j5 q)),(8,.cv (CV.lit (Value.slice none 0 0))),(29,.cv (rdV l)),(30,.cv (j5 (↑l.length:Int))),(31,.cv (j5 k))],[]⟩ R:=
 z0C (keep:=[0,1,7,8,29,30,31]) (σ:=[2]) (.b 2 h (.c o1 (.c o2 (.c (eqn 2) (.c (lq 2 2) (.o 4 (.r (.agg [.lit (.int .i64 mi),.lit (.int .i64 mo)])) (.b 10 h1 (.b 15 h2 (.c (lq 16 1099511627776) (.c (lq 1 1099511627776) (.c (show 0<1 from by decide) (.c (eqn 2) (.o 29 .stop .nil))))))))))))) (by kernel_rfl) rfl hn hR (.cons (by simp[CvL]) .nil)
theorem znn(l:List (Int×Int))(b' q k mi mo:Int)(c:Nat)(out:List CV)(h:decide (k<(↑l.length:Int))=true)(h1:decide (mo>9900)=true)(o1:(0:Int)≤k∧k<(↑l.length:Int))(o2:List.take 2 (List.drop (k.toNat*2) (flat rdL l))=[.lit (.int .i64 mi),.lit (.int .i64 mo)]){R:Goal}(hR:R.c (.lit (.bool true))):Ok P 12 (loopHead P 12 0) ⟨J2 111 [(0,.cv (rdV l)),(1,.cv (.lit (.int .i16 b'))),(7,.cv (j5 q)),(8,.sl 0 0 c 2),(29,.cv (rdV l)),(30,.cv (j5 (↑l.length:Int))),(31,.cv (j5 k))],[some (own out)]⟩ R:=
 okT (.b 2 h (.c o1 (.c o2 (.c (eqn 2) (.c (lq 2 2) (.o 4 (.r (.agg [.lit (.int .i64 mi),.lit (.int .i64 mo)])) (.b 10 h1 .nil))))))) (by kernel_rfl) hR
theorem zkS(l:List (Int×Int))(b' q k mi mo:Int)(c:Nat)(out:List CV)(h:decide (k<(↑l.length:Int))=true)(h1:decide (mo>9900)=false)(h2:decide (mo<(-9900:Int))=true)(o1:(0:Int)≤k∧k<(↑l.length:Int))(o2:List.take 2 (List.drop (k.toNat*2) (flat rdL l))=[.lit (.int .i64 mi),.lit (.int .i64 mo)]){R:Goal}(hR:R.c (.lit (.bool true))):Ok P 12 (loopHead P 12 0) ⟨J2 111 [(0,.cv (rdV l)),(1,.cv (.lit (.int .i16 b'))),(7,.cv (j5 q)),(8,.sl 0 0 c 2),(29,.cv (rdV l)),(30,.cv (j5 (↑l.length:Int))),(31,.cv (j5 k))],[some (own out)]⟩ R:=
 okT (.b 2 h (.c o1 (.c o2 (.c (eqn 2) (.c (lq 2 2) (.o 4 (.r (.agg [.lit (.int .i64 mi),.lit (.int .i64 mo)])) (.b 10 h1 (.b 15 h2 .nil)))))))) (by kernel_rfl) hR
theorem zo8(l:List (Int×Int))(b' q k mi mo:Int)(c:Nat)(out:List CV)(h:decide (k<(↑l.length:Int))=true)(h1:decide (mo>9900)=false)(h2:decide (mo<(-9900:Int))=false)(o1:(0:Int)≤k∧k<(↑l.length:Int))(o2:List.take 2 (List.drop (k.toNat*2) (flat rdL l))=[.lit (.int .i64 mi),.lit (.int .i64 mo)])(o7:(c+1)*16≤1099511627776)(o8:c+1≤1099511627776)(o9:(own out).length=c*2)(o10:zaa [.cv (.lit (.int .i64 mi)),.cv (.lit (.int .i64 (i64.wrap (mo+q))))])(o12:CvL (own out++[.cv (.lit (.int .i64 mi)),.cv (.lit (.int .i64 (i64.wrap (mo+q))))])){R:Goal}(hn:J0 R.n [3]=true)(hR:Ok P 12 (loopHead P 12 0) ⟨J2 111 [(0,.cv (.lst l.length (flat rdL l))),(1,.cv (.lit (.int .i16 b'))),(7,.cv (.lit (.int .i64 q))),(8,.sl 0 0 (c+1) 2),(29,.cv (.lst l.length (flat rdL l))),(30,.cv (.lit (.int .i64 (↑l.length:Int)))),(31,.cv (.lit (.int .i64 (i64.wrap (k+1)))))],[some (own out++[.cv (.lit (.int .i64 mi)),.cv (.lit (.int .i64 (i64.wrap (mo+q))))])]⟩ R):Ok P 12 (loopHead P 12 0) ⟨J2 111 [(0,.cv (rdV l)),(1,.cv (.lit (.int .i16 b'))),(7,.cv (j5 q)),(8,.sl 0 0 c 2),(29,.cv (rdV l)),(30,.cv (j5 (↑l.length:Int))),(31,.cv (j5 k))],[some (own out)]⟩ R:=
 z0C (keep:=[0,1,7,8,29,30,31]) (σ:=[3]) (.b 2 h (.c o1 (.c o2 (.c (eqn 2) (.c (lq 2 2) (.o 4 (.r (.agg [.lit (.int .i64 mi),.lit (.int .i64 mo)])) (.b 10 h1 (.b 15 h2 (.c o7 (.c o8 (.c o9 (.c o10 (.c (eqn 2) (.o 29 .stop .nil)))))))))))))) (by kernel_rfl) rfl hn hR (.cons o12 .nil)
end Go.Fw
open Go
namespace Go.Fw
set_option maxRecDepth 100000
theorem z7X{α β:Type}(f:β→List CV)(g:α→β)(l:List α):flat f (l.map g)=flat (fun x=>f (g x)) l:=by
 induction l with
 |nil=>rfl
 |cons x l ih=>rw[List.map_cons,z1N,z1N,ih]
def z2f(b:Int)(x:Int×Int):Int×Int:=((x.1%24+b%24)%24,x.2)
def z2m(l:List (Int×Int))(b:Int):List (Int×Int)×Int:=if z4w l then(l.map (z2f b),0)else([],1)
theorem zpA(i b:Int):IntKind.i64.wrap (i%24+b%24)=i%24+b%24:=w64 (by omega)
theorem zbA(l:List (Int×Int))(b:Int)(g:z4w l=true):PCall P 67 [rdV l,j5 b] (.tup [rdV (l.map (z2f b)),j5 0]):=by
 obtain⟨hl,_⟩:=z8w g
 cases l with
 | nil => exact z6c (zgp [] b g (by decide) (R := (· = _)) (zit [] b 0 0 0 rfl rfl))
 |cons x t=>
  generalize hx:x::t=l at*
  have hne:l≠[]:=by rw[←hx];exact List.cons_ne_nil _ _
  refine zgp l b g (by omega) (R := (· = _)) ?_
  refine z6Y (s:=2) l (fun x=>rdL (z2f b x)) (fun _=>rfl) (fun k o=>Ok P 67 (loopHead P 67 0) (match o with
   |none=>⟨J2 33 [(1,.cv (j5 b)),(6,.cv (.lit (.slice none 0 0))),(12,.cv (rdV l)),(13,.cv (j5 l.length)),(14,.cv (j5 k))],[]⟩
   | some (c, out) => ⟨J2 33 [(1, .cv (j5 b)), (6, .sl 0 0 c 2), (12, .cv (rdV l)), (13, .cv (j5 l.length)), (14, .cv (j5 k))], [some (own out)]⟩) (.of (· = .tup [rdV (l.map (z2f b)), j5 0]))) ?_ ?_ hne ?_
  · intro k hk h
    refine ziB l b k l[k].1 l[k].2 (decide_eq_true (by omega)) (by omega) (z0X z0E hk) rfl ?_
    rw[w64 (n:=(k:Int)+1) (by omega),zpA]
    exact h
  · intro k hk c out hc ho h
    refine zjY l b k l[k].1 l[k].2 c out (decide_eq_true (by omega)) (by omega) (z0X z0E hk) (by omega) (by omega) (by simp[own,ho]) ?_ ?_ rfl ?_
    · simp[zaa,MV.one]
    · exact zbZ _ [_,_]
    · rw[w64 (n:=(k:Int)+1) (by omega),zpA]
      have h2 : Ok P 67 (loopHead P 67 0) ⟨J2 33 [(1, .cv (j5 b)), (6, .sl 0 0 (c + 1) 2), (12, .cv (rdV l)), (13, .cv (j5 l.length)), (14, .cv (j5 ((k + 1 : Nat) : Int)))], [some (own (out ++ rdL (z2f b l[k])))]⟩ (.of (· = .tup [rdV (l.map (z2f b)), j5 0])) := h
      rw[z8Z]at h2
      exact h2
  · refine zij l b l.length 0 0 l.length (flat (fun x=>rdL (z2f b x)) l) (decide_eq_false (by omega)) ?_ ?_
    · rw[List.drop_zero,List.take_of_length_le (by simp[own,z1e (f:=fun x=>rdL (z2f b x)) (s:=2) (fun _=>rfl)])];rfl
    · show CV.tup _=CV.tup _
      unfold rdV
      rw[z7X,List.length_map]
theorem zgy(l:List (Int×Int))(b:Int)(hl:l.length<2^30):PCall P 67 [rdV l,j5 b] (.tup [rdV (z2m l b).1,j5 (z2m l b).2]):=by
 unfold z2m
 cases g:z4w l
 · exact z6c (zik l b g hl)
 · exact zbA l b g
theorem z8c{P:Program}{f:FuncId}{args:List CV}{v:CV}(h:PCall P f (.lst 0 []::args) v):PCall P f (.lit (.slice none 0 0)::args) v:=by
 intro Im w vs him hrep
 refine h Im w vs him ?_
 unfold CV.repL at hrep ⊢
 obtain⟨y,ys,h1,h2,h3⟩:=hrep
 refine⟨y,ys,h1,?_,h3⟩
 unfold CV.rep at h2 ⊢
 exact⟨none,0,h2,Nat.le_refl _,.inl ⟨rfl,rfl⟩⟩
theorem zeL(b:Int):PCall P 67 [.lit (.slice none 0 0),j5 b] (.tup [rdV [],j5 0]):=z8c (zbA [] b rfl)
end Go.Fw
open Go
namespace Go.Fw
set_option maxRecDepth 100000
noncomputable def zmm(v:V3)(i:Int):V3:=⟨v.x*X9 i-v.y*U0 i,v.x*U0 i+v.y*X9 i,v.z⟩
noncomputable def rTu(v:VN)(i:Int):VN:=match toV v with|some k=>kv (zmm k i)|none=> .zero
theorem zpQ(v:V3):(kv v).c=z5Z v.x v.y v.z:=by
 unfold kv kV
 rw[z1P,z1P,z1P];rfl
theorem zhd(x y z:RN)(i:Int)(h:zdW 100000 x y z=true):PCall P 50 [z3J x y z,j5 i] (rTu ⟨x,y,z⟩ i).c:=by
 have h6:zdW 1000000 x y z=true:=VN.raw_mono (v:=⟨x,y,z⟩) h (by decide)
 unfold rTu
 cases e:toV ⟨x,y,z⟩with
 |none=>exact zjQ x y z i (z3x e) h6
 |some k=>
  obtain⟨a,b,c⟩:=z2X e h
  have:=zi7 k.x k.y k.z i a b c
  dsimp only
  rw[zpQ]
  have hc:=zdN e
  have hc':z3J x y z=z5Z k.x k.y k.z:=hc
  rw[hc']
  exact this
theorem z6Z:z2a []=(.zero,20):=by
 unfold z2a
 rw[if_pos (by decide),if_pos (by decide+kernel)]
theorem zgU:PCall P 60 [.lst 0 []] (.tup [VN.zero.c,j5 20]):=by
 have h:=z9m [] (by decide)
 rw[z6Z]at h
 exact h
end Go.Fw
open Go IntKind
namespace Go.Fw
set_option maxRecDepth 100000
theorem znX(l mv:List (Int×Int))(b' q k:Int)(h:decide (k<(↑l.length:Int))=false)(e:((z2a l).snd != 0)=true)(h1:((z2m mv (i64.wrap b')).2==0)=true)(s4_0:l.length<2^30)(s5_0:l.length≤12)(s15_0:mv.length<2^30)(s22_0:(z2m mv (i64.wrap b')).1.length≤12)(o5:List.take (mv.length*2) (List.drop 0 (own (flat rdL mv)))=List.map MV.cv (flat rdL mv)){R:Goal}(hR:R.c (.lit (.bool ((z2a l).2==(z2a (z2m mv (i64.wrap b')).1).2)))):Ok P 12 (loopHead P 12 0) ⟨J2 111 [(0,.cv (rdV l)),(1,.cv (.lit (.int .i16 b'))),(7,.cv (j5 q)),(8,.sl 0 0 mv.length 2),(29,.cv (rdV l)),(30,.cv (j5 (↑l.length:Int))),(31,.cv (j5 k))],[some (own (flat rdL mv))]⟩ R:=
 okT (.c h (.o 2 (.b false) (.r 4 (zgL (l) s4_0) (.r 5 (z9m (l) s5_0) (.c (lq 30 30) (.rs 15 [flat rdL mv] (zgy (mv) (i64.wrap b') s15_0) (.c o5 (.r 22 (z9m ((z2m mv (i64.wrap b')).1) s22_0) (.c (lq 30 30) (.c e (.c h1 (.o 31 (.b true) (.o 34 (.b true) .nil))))))))))))) (by kernel_rfl) hR
theorem znT(l mv:List (Int×Int))(b' q k:Int)(h:decide (k<(↑l.length:Int))=false)(e:((z2a l).snd != 0)=false)(h1:((z2m mv (i64.wrap b')).2==0)=true)(h2:((z2a (z2m mv (i64.wrap b')).1).2==0)=true)(s4_0:l.length<2^30)(s5_0:l.length≤12)(s15_0:mv.length<2^30)(s22_0:(z2m mv (i64.wrap b')).1.length≤12)(s39_0:(-9223372036854775808:Int)≤q∧q≤9223372036854775807)(s40_0:RN.raw 1000000 (z2a l).fst.x=true)(s40_1:RN.raw 1000000 (oN q)=true)(s44_0:zdW 100000 (z2a l).fst.y (z2a l).fst.z (z3c (z2a l).fst.x (oN q))=true)(o5:List.take (mv.length*2) (List.drop 0 (own (flat rdL mv)))=List.map MV.cv (flat rdL mv)){R:Goal}(hR:R.c (.lit (.bool (rnB (z2a (z2m mv (i64.wrap b')).1).fst.x (rTu {x:=(z2a l).fst.y,y:=(z2a l).fst.z,z:=z3c (z2a l).fst.x (oN q)} (i64.wrap b')).z&&(rnB (z2a (z2m mv (i64.wrap b')).1).fst.y (rTu {x:=(z2a l).fst.y,y:=(z2a l).fst.z,z:=z3c (z2a l).fst.x (oN q)} (i64.wrap b')).x&&(rnB (z2a (z2m mv (i64.wrap b')).1).fst.z (rTu {x:=(z2a l).fst.y,y:=(z2a l).fst.z,z:=z3c (z2a l).fst.x (oN q)} (i64.wrap b')).y&&true)))))):Ok P 12 (loopHead P 12 0) ⟨J2 111 [(0,.cv (rdV l)),(1,.cv (.lit (.int .i16 b'))),(7,.cv (j5 q)),(8,.sl 0 0 mv.length 2),(29,.cv (rdV l)),(30,.cv (j5 (↑l.length:Int))),(31,.cv (j5 k))],[some (own (flat rdL mv))]⟩ R:=
 okT (.c h (.o 2 (.b false) (.r 4 (zgL (l) s4_0) (.r 5 (z9m (l) s5_0) (.c (lq 30 30) (.rs 15 [flat rdL mv] (zgy (mv) (i64.wrap b') s15_0) (.c o5 (.r 22 (z9m ((z2m mv (i64.wrap b')).1) s22_0) (.c (lq 30 30) (.c e (.o 31 (.b false) (.r 39 (zpn (q) s39_0) (.r 40 (zkV ((z2a l).fst.x) (oN q) s40_0 s40_1) (.r 44 (zhd ((z2a l).fst.y) ((z2a l).fst.z) (z3c (z2a l).fst.x (oN q)) (i64.wrap b') s44_0) (.c (lq 30 30) (.c h1 (.c h2 (.o 49 (.b true) (.o 53 (.b true) .nil))))))))))))))))))) (by kernel_rfl) hR
theorem znE(l:List (Int×Int))(b' q k:Int)(h:decide (k<(↑l.length:Int))=false)(e:((z2a l).snd != 0)=true)(s4_0:l.length<2^30)(s5_0:l.length≤12){R:Goal}(hR:R.c (.lit (.bool ((z2a l).2==20)))):Ok P 12 (loopHead P 12 0) ⟨J2 111 [(0,.cv (rdV l)),(1,.cv (.lit (.int .i16 b'))),(7,.cv (j5 q)),(8,.cv (CV.lit (Value.slice none 0 0))),(29,.cv (rdV l)),(30,.cv (j5 (↑l.length:Int))),(31,.cv (j5 k))],[]⟩ R:=
 okT (.c h (.o 2 (.b false) (.r 4 (zgL (l) s4_0) (.r 5 (z9m (l) s5_0) (.c (lq 30 30) (.r 15 (zeL (i64.wrap b')) (.r 22 (zgU) (.c (lq 30 30) (.c e (.o 31 (.b true) .nil)))))))))) (by kernel_rfl) hR
end Go.Fw
open Go
namespace Go.Fw
set_option maxRecDepth 100000
def zgS(c s:K)(v:V3):V3:=⟨v.x,c*v.y-s*v.z,s*v.y+c*v.z⟩
def zbh(v w:V3)(p r:K):V3:=⟨v.x*p+w.x*r,v.y*p+w.y*r,v.z*p+w.z*r⟩
def S4.turn(c s q:K)(t:S4):S4:=⟨zgS c s t.a,zgS c s (zbh t.b t.c c (-s)),zgS c s (zbh t.b t.c s c),zgS c s (zbh t.d t.a 1 q)⟩
theorem zmK(c s r1 r2 r3 a1 a2 a3:K):(a1+r1*r1)=(a1+r1*r1):=
 (show ∀ρ:Nat→K,(ρ 5+ρ 2*ρ 2)=(ρ 5+ρ 2*ρ 2)from fun ρ=>CR.ring ρ rfl) (CR.vr [c,s,r1,r2,r3,a1,a2,a3])
theorem zkK(c s r1 r2 r3 a1 a2 a3:K):((c*a2-s*a3)+(c*r2-s*r3)*r1)=(c*(a2+r2*r1)-s*(a3+r3*r1)):=
 (show ∀ρ:Nat→K,((ρ 0*ρ 6-ρ 1*ρ 7)+(ρ 0*ρ 3-ρ 1*ρ 4)*ρ 2)=(ρ 0*(ρ 6+ρ 3*ρ 2)-ρ 1*(ρ 7+ρ 4*ρ 2))from fun ρ=>CR.ring ρ rfl) (CR.vr [c,s,r1,r2,r3,a1,a2,a3])
theorem zkU(c s r1 r2 r3 a1 a2 a3:K):((s*a2+c*a3)+(s*r2+c*r3)*r1)=(s*(a2+r2*r1)+c*(a3+r3*r1)):=
 (show ∀ρ:Nat→K,((ρ 1*ρ 6+ρ 0*ρ 7)+(ρ 1*ρ 3+ρ 0*ρ 4)*ρ 2)=(ρ 1*(ρ 6+ρ 3*ρ 2)+ρ 0*(ρ 7+ρ 4*ρ 2))from fun ρ=>CR.ring ρ rfl) (CR.vr [c,s,r1,r2,r3,a1,a2,a3])
theorem zmE(c s r1 r2 r3 b1 b2 b3 e1 e2 e3:K):((b1*c+e1*(-s))+r1*(c*r2-s*r3))=((b1+r1*r2)*c+(e1+r1*r3)*(-s)):=
 (show ∀ρ:Nat→K,((ρ 5*ρ 0+ρ 8*(-ρ 1))+ρ 2*(ρ 0*ρ 3-ρ 1*ρ 4))=((ρ 5+ρ 2*ρ 3)*ρ 0+(ρ 8+ρ 2*ρ 4)*(-ρ 1))from fun ρ=>CR.ring ρ rfl) (CR.vr [c,s,r1,r2,r3,b1,b2,b3,e1,e2,e3])
theorem zoA(c s r1 r2 r3 b1 b2 b3 e1 e2 e3:K):((c*(b2*c+e2*(-s))-s*(b3*c+e3*(-s)))+(c*r2-s*r3)*(c*r2-s*r3))=(c*((b2+r2*r2)*c+(e2+r2*r3)*(-s))-s*((b3+r3*r2)*c+(e3+r3*r3)*(-s))):=
 (show ∀ρ:Nat→K,((ρ 0*(ρ 6*ρ 0+ρ 9*(-ρ 1))-ρ 1*(ρ 7*ρ 0+ρ 10*(-ρ 1)))+(ρ 0*ρ 3-ρ 1*ρ 4)*(ρ 0*ρ 3-ρ 1*ρ 4))=(ρ 0*((ρ 6+ρ 3*ρ 3)*ρ 0+(ρ 9+ρ 3*ρ 4)*(-ρ 1))-ρ 1*((ρ 7+ρ 4*ρ 3)*ρ 0+(ρ 10+ρ 4*ρ 4)*(-ρ 1)))from fun ρ=>CR.ring ρ rfl) (CR.vr [c,s,r1,r2,r3,b1,b2,b3,e1,e2,e3])
theorem zkG(c s r1 r2 r3 b1 b2 b3 e1 e2 e3:K):((s*(b2*c+e2*(-s))+c*(b3*c+e3*(-s)))+(s*r2+c*r3)*(c*r2-s*r3))=(s*((b2+r2*r2)*c+(e2+r2*r3)*(-s))+c*((b3+r3*r2)*c+(e3+r3*r3)*(-s))):=
 (show ∀ρ:Nat→K,((ρ 1*(ρ 6*ρ 0+ρ 9*(-ρ 1))+ρ 0*(ρ 7*ρ 0+ρ 10*(-ρ 1)))+(ρ 1*ρ 3+ρ 0*ρ 4)*(ρ 0*ρ 3-ρ 1*ρ 4))=(ρ 1*((ρ 6+ρ 3*ρ 3)*ρ 0+(ρ 9+ρ 3*ρ 4)*(-ρ 1))+ρ 0*((ρ 7+ρ 4*ρ 3)*ρ 0+(ρ 10+ρ 4*ρ 4)*(-ρ 1)))from fun ρ=>CR.ring ρ rfl) (CR.vr [c,s,r1,r2,r3,b1,b2,b3,e1,e2,e3])
theorem zn8(c s r1 r2 r3 b1 b2 b3 e1 e2 e3:K):((b1*s+e1*c)+r1*(s*r2+c*r3))=((b1+r1*r2)*s+(e1+r1*r3)*c):=
 (show ∀ρ:Nat→K,((ρ 5*ρ 1+ρ 8*ρ 0)+ρ 2*(ρ 1*ρ 3+ρ 0*ρ 4))=((ρ 5+ρ 2*ρ 3)*ρ 1+(ρ 8+ρ 2*ρ 4)*ρ 0)from fun ρ=>CR.ring ρ rfl) (CR.vr [c,s,r1,r2,r3,b1,b2,b3,e1,e2,e3])
theorem zmt(c s r1 r2 r3 b1 b2 b3 e1 e2 e3:K):((c*(b2*s+e2*c)-s*(b3*s+e3*c))+(c*r2-s*r3)*(s*r2+c*r3))=(c*((b2+r2*r2)*s+(e2+r2*r3)*c)-s*((b3+r3*r2)*s+(e3+r3*r3)*c)):=
 (show ∀ρ:Nat→K,((ρ 0*(ρ 6*ρ 1+ρ 9*ρ 0)-ρ 1*(ρ 7*ρ 1+ρ 10*ρ 0))+(ρ 0*ρ 3-ρ 1*ρ 4)*(ρ 1*ρ 3+ρ 0*ρ 4))=(ρ 0*((ρ 6+ρ 3*ρ 3)*ρ 1+(ρ 9+ρ 3*ρ 4)*ρ 0)-ρ 1*((ρ 7+ρ 4*ρ 3)*ρ 1+(ρ 10+ρ 4*ρ 4)*ρ 0))from fun ρ=>CR.ring ρ rfl) (CR.vr [c,s,r1,r2,r3,b1,b2,b3,e1,e2,e3])
theorem zmk(c s r1 r2 r3 b1 b2 b3 e1 e2 e3:K):((s*(b2*s+e2*c)+c*(b3*s+e3*c))+(s*r2+c*r3)*(s*r2+c*r3))=(s*((b2+r2*r2)*s+(e2+r2*r3)*c)+c*((b3+r3*r2)*s+(e3+r3*r3)*c)):=
 (show ∀ρ:Nat→K,((ρ 1*(ρ 6*ρ 1+ρ 9*ρ 0)+ρ 0*(ρ 7*ρ 1+ρ 10*ρ 0))+(ρ 1*ρ 3+ρ 0*ρ 4)*(ρ 1*ρ 3+ρ 0*ρ 4))=(ρ 1*((ρ 6+ρ 3*ρ 3)*ρ 1+(ρ 9+ρ 3*ρ 4)*ρ 0)+ρ 0*((ρ 7+ρ 4*ρ 3)*ρ 1+(ρ 10+ρ 4*ρ 4)*ρ 0))from fun ρ=>CR.ring ρ rfl) (CR.vr [c,s,r1,r2,r3,b1,b2,b3,e1,e2,e3])
theorem zl4(c s r1 r2 r3 a1 a2 a3 d1 d2 d3 o q:K):((d1*1+a1*q)+r1*(o+r1*q))=((d1+r1*o)*1+(a1+r1*r1)*q):=
 (show ∀ρ:Nat→K,((ρ 8*1+ρ 5*ρ 12)+ρ 2*(ρ 11+ρ 2*ρ 12))=((ρ 8+ρ 2*ρ 11)*1+(ρ 5+ρ 2*ρ 2)*ρ 12)from fun ρ=>CR.ring ρ rfl) (CR.vr [c,s,r1,r2,r3,a1,a2,a3,d1,d2,d3,o,q])
theorem zmY(c s r1 r2 r3 a1 a2 a3 d1 d2 d3 o q:K):((c*(d2*1+a2*q)-s*(d3*1+a3*q))+(c*r2-s*r3)*(o+r1*q))=(c*((d2+r2*o)*1+(a2+r2*r1)*q)-s*((d3+r3*o)*1+(a3+r3*r1)*q)):=
 (show ∀ρ:Nat→K,((ρ 0*(ρ 9*1+ρ 6*ρ 12)-ρ 1*(ρ 10*1+ρ 7*ρ 12))+(ρ 0*ρ 3-ρ 1*ρ 4)*(ρ 11+ρ 2*ρ 12))=(ρ 0*((ρ 9+ρ 3*ρ 11)*1+(ρ 6+ρ 3*ρ 2)*ρ 12)-ρ 1*((ρ 10+ρ 4*ρ 11)*1+(ρ 7+ρ 4*ρ 2)*ρ 12))from fun ρ=>CR.ring ρ rfl) (CR.vr [c,s,r1,r2,r3,a1,a2,a3,d1,d2,d3,o,q])
theorem znO(c s r1 r2 r3 a1 a2 a3 d1 d2 d3 o q:K):((s*(d2*1+a2*q)+c*(d3*1+a3*q))+(s*r2+c*r3)*(o+r1*q))=(s*((d2+r2*o)*1+(a2+r2*r1)*q)+c*((d3+r3*o)*1+(a3+r3*r1)*q)):=
 (show ∀ρ:Nat→K,((ρ 1*(ρ 9*1+ρ 6*ρ 12)+ρ 0*(ρ 10*1+ρ 7*ρ 12))+(ρ 1*ρ 3+ρ 0*ρ 4)*(ρ 11+ρ 2*ρ 12))=(ρ 1*((ρ 9+ρ 3*ρ 11)*1+(ρ 6+ρ 3*ρ 2)*ρ 12)+ρ 0*((ρ 10+ρ 4*ρ 11)*1+(ρ 7+ρ 4*ρ 2)*ρ 12))from fun ρ=>CR.ring ρ rfl) (CR.vr [c,s,r1,r2,r3,a1,a2,a3,d1,d2,d3,o,q])
theorem zfo(i b:Int):z5f ((i%24+b%24)%24)=zgS (X9 b) (U0 b) (z5f i):=by
 have e:((i%24+b%24)%24)%24=(i+b)%24:=by omega
 unfold z5f zgS
 simp only
 rw[z8B e,z8e e,zj0,zhP]
 have e1:X9 i*X9 b-U0 i*U0 b=X9 b*X9 i-U0 b*U0 i:=(show ∀ρ:Nat→K,ρ 0*ρ 2-ρ 1*ρ 3=ρ 2*ρ 0-ρ 3*ρ 1 from fun ρ=>CR.ring ρ rfl) (CR.vr [X9 i,U0 i,X9 b,U0 b])
 have e2:U0 i*X9 b+X9 i*U0 b=U0 b*X9 i+X9 b*U0 i:=(show ∀ρ:Nat→K,ρ 1*ρ 2+ρ 0*ρ 3=ρ 3*ρ 0+ρ 2*ρ 1 from fun ρ=>CR.ring ρ rfl) (CR.vr [X9 i,U0 i,X9 b,U0 b])
 rw[e1,e2]
theorem V3.ext{v w:V3}(h1:v.x=w.x)(h2:v.y=w.y)(h3:v.z=w.z):v=w:=by
 cases v;cases w;simp only at h1 h2 h3;subst h1 h2 h3;rfl
theorem zkm(q:K):K.ofInt 1*q=q:=(show ∀ρ:Nat→K,1*ρ 0=ρ 0 from fun ρ=>CR.ring ρ rfl) (CR.vr [q])
theorem zcY(b q:Int)(s:S4)(x:Int×Int):(s.turn (X9 b) (U0 b) (K.ofInt q)).step ((x.1%24+b%24)%24,x.2+q)=(s.step x).turn (X9 b) (U0 b) (K.ofInt q):=by
 unfold S4.step
 simp only
 rw[zfo,K.ofInt_add]
 have oq:K.ofInt x.2+K.ofInt q=K.ofInt x.2+(z5f x.1).x*K.ofInt q:=by rw[show(z5f x.1).x=K.ofInt 1 from rfl,zkm]
 rw[oq]
 generalize z5f x.1=r
 generalize X9 b=c
 generalize U0 b=n
 generalize K.ofInt q=q
 generalize K.ofInt x.2=o
 unfold S4.turn
 congr 1
 · exact V3.ext (zmK c n r.x r.y r.z s.a.x s.a.y s.a.z) (zkK c n r.x r.y r.z s.a.x s.a.y s.a.z) (zkU c n r.x r.y r.z s.a.x s.a.y s.a.z)
 · exact V3.ext (zmE c n r.x r.y r.z s.b.x s.b.y s.b.z s.c.x s.c.y s.c.z) (zoA c n r.x r.y r.z s.b.x s.b.y s.b.z s.c.x s.c.y s.c.z) (zkG c n r.x r.y r.z s.b.x s.b.y s.b.z s.c.x s.c.y s.c.z)
 · exact V3.ext (zn8 c n r.x r.y r.z s.b.x s.b.y s.b.z s.c.x s.c.y s.c.z) (zmt c n r.x r.y r.z s.b.x s.b.y s.b.z s.c.x s.c.y s.c.z) (zmk c n r.x r.y r.z s.b.x s.b.y s.b.z s.c.x s.c.y s.c.z)
 · exact V3.ext (zl4 c n r.x r.y r.z s.a.x s.a.y s.a.z s.d.x s.d.y s.d.z o q) (zmY c n r.x r.y r.z s.a.x s.a.y s.a.z s.d.x s.d.y s.d.z o q) (znO c n r.x r.y r.z s.a.x s.a.y s.a.z s.d.x s.d.y s.d.z o q)
theorem zke(c s a1 a2 a3 b1 b2 b3 e1 e2 e3:K):(a1*((c*b2-s*b3)*(s*e2+c*e3)-(s*b2+c*b3)*(c*e2-s*e3))+(c*a2-s*a3)*((s*b2+c*b3)*e1-b1*(s*e2+c*e3))+(s*a2+c*a3)*(b1*(c*e2-s*e3)-(c*b2-s*b3)*e1))=(a1*(b2*e3-b3*e2)+a2*(b3*e1-b1*e3)+a3*(b1*e2-b2*e1))*(c*c+s*s):=
 (show ∀ρ:Nat→K,(ρ 2*((ρ 0*ρ 6-ρ 1*ρ 7)*(ρ 1*ρ 9+ρ 0*ρ 10)-(ρ 1*ρ 6+ρ 0*ρ 7)*(ρ 0*ρ 9-ρ 1*ρ 10))+(ρ 0*ρ 3-ρ 1*ρ 4)*((ρ 1*ρ 6+ρ 0*ρ 7)*ρ 8-ρ 5*(ρ 1*ρ 9+ρ 0*ρ 10))+(ρ 1*ρ 3+ρ 0*ρ 4)*(ρ 5*(ρ 0*ρ 9-ρ 1*ρ 10)-(ρ 0*ρ 6-ρ 1*ρ 7)*ρ 8))=(ρ 2*(ρ 6*ρ 10-ρ 7*ρ 9)+ρ 3*(ρ 7*ρ 8-ρ 5*ρ 10)+ρ 4*(ρ 5*ρ 9-ρ 6*ρ 8))*(ρ 0*ρ 0+ρ 1*ρ 1)from fun ρ=>CR.ring ρ rfl) (CR.vr [c,s,a1,a2,a3,b1,b2,b3,e1,e2,e3])
theorem zha(c s a1 a2 a3 b1 b2 b3 e1 e2 e3:K):(a1*((b2*c+e2*(-s))*(b3*s+e3*c)-(b3*c+e3*(-s))*(b2*s+e2*c))+a2*((b3*c+e3*(-s))*(b1*s+e1*c)-(b1*c+e1*(-s))*(b3*s+e3*c))+a3*((b1*c+e1*(-s))*(b2*s+e2*c)-(b2*c+e2*(-s))*(b1*s+e1*c)))=(a1*(b2*e3-b3*e2)+a2*(b3*e1-b1*e3)+a3*(b1*e2-b2*e1))*(c*c+s*s):=
 (show ∀ρ:Nat→K,(ρ 2*((ρ 6*ρ 0+ρ 9*(-ρ 1))*(ρ 7*ρ 1+ρ 10*ρ 0)-(ρ 7*ρ 0+ρ 10*(-ρ 1))*(ρ 6*ρ 1+ρ 9*ρ 0))+ρ 3*((ρ 7*ρ 0+ρ 10*(-ρ 1))*(ρ 5*ρ 1+ρ 8*ρ 0)-(ρ 5*ρ 0+ρ 8*(-ρ 1))*(ρ 7*ρ 1+ρ 10*ρ 0))+ρ 4*((ρ 5*ρ 0+ρ 8*(-ρ 1))*(ρ 6*ρ 1+ρ 9*ρ 0)-(ρ 6*ρ 0+ρ 9*(-ρ 1))*(ρ 5*ρ 1+ρ 8*ρ 0)))=(ρ 2*(ρ 6*ρ 10-ρ 7*ρ 9)+ρ 3*(ρ 7*ρ 8-ρ 5*ρ 10)+ρ 4*(ρ 5*ρ 9-ρ 6*ρ 8))*(ρ 0*ρ 0+ρ 1*ρ 1)from fun ρ=>CR.ring ρ rfl) (CR.vr [c,s,a1,a2,a3,b1,b2,b3,e1,e2,e3])
theorem zjJ(c s a1 a2 a3 b1 b2 b3 e1 e2 e3 x y z q:K):a1*(x+q)+(b1*c+e1*(-s))*(c*y-s*z)+(b1*s+e1*c)*(s*y+c*z)=(a1*x+(c*c+s*s)*(b1*y+e1*z)+a1*q):=
 (show ∀ρ:Nat→K,ρ 2*(ρ 11+ρ 14)+(ρ 5*ρ 0+ρ 8*(-ρ 1))*(ρ 0*ρ 12-ρ 1*ρ 13)+(ρ 5*ρ 1+ρ 8*ρ 0)*(ρ 1*ρ 12+ρ 0*ρ 13)=(ρ 2*ρ 11+(ρ 0*ρ 0+ρ 1*ρ 1)*(ρ 5*ρ 12+ρ 8*ρ 13)+ρ 2*ρ 14)from fun ρ=>CR.ring ρ rfl) (CR.vr [c,s,a1,a2,a3,b1,b2,b3,e1,e2,e3,x,y,z,q])
theorem ziT(c s a1 a2 a3 b1 b2 b3 e1 e2 e3 x y z q:K):(c*a2-s*a3)*(x+q)+(c*(b2*c+e2*(-s))-s*(b3*c+e3*(-s)))*(c*y-s*z)+(c*(b2*s+e2*c)-s*(b3*s+e3*c))*(s*y+c*z)=(c*(a2*x+(c*c+s*s)*(b2*y+e2*z)+a2*q)-s*(a3*x+(c*c+s*s)*(b3*y+e3*z)+a3*q)):=
 (show ∀ρ:Nat→K,(ρ 0*ρ 3-ρ 1*ρ 4)*(ρ 11+ρ 14)+(ρ 0*(ρ 6*ρ 0+ρ 9*(-ρ 1))-ρ 1*(ρ 7*ρ 0+ρ 10*(-ρ 1)))*(ρ 0*ρ 12-ρ 1*ρ 13)+(ρ 0*(ρ 6*ρ 1+ρ 9*ρ 0)-ρ 1*(ρ 7*ρ 1+ρ 10*ρ 0))*(ρ 1*ρ 12+ρ 0*ρ 13)=(ρ 0*(ρ 3*ρ 11+(ρ 0*ρ 0+ρ 1*ρ 1)*(ρ 6*ρ 12+ρ 9*ρ 13)+ρ 3*ρ 14)-ρ 1*(ρ 4*ρ 11+(ρ 0*ρ 0+ρ 1*ρ 1)*(ρ 7*ρ 12+ρ 10*ρ 13)+ρ 4*ρ 14))from fun ρ=>CR.ring ρ rfl) (CR.vr [c,s,a1,a2,a3,b1,b2,b3,e1,e2,e3,x,y,z,q])
theorem zgG(c s a1 a2 a3 b1 b2 b3 e1 e2 e3 x y z q:K):(s*a2+c*a3)*(x+q)+(s*(b2*c+e2*(-s))+c*(b3*c+e3*(-s)))*(c*y-s*z)+(s*(b2*s+e2*c)+c*(b3*s+e3*c))*(s*y+c*z)=(s*(a2*x+(c*c+s*s)*(b2*y+e2*z)+a2*q)+c*(a3*x+(c*c+s*s)*(b3*y+e3*z)+a3*q)):=
 (show ∀ρ:Nat→K,(ρ 1*ρ 3+ρ 0*ρ 4)*(ρ 11+ρ 14)+(ρ 1*(ρ 6*ρ 0+ρ 9*(-ρ 1))+ρ 0*(ρ 7*ρ 0+ρ 10*(-ρ 1)))*(ρ 0*ρ 12-ρ 1*ρ 13)+(ρ 1*(ρ 6*ρ 1+ρ 9*ρ 0)+ρ 0*(ρ 7*ρ 1+ρ 10*ρ 0))*(ρ 1*ρ 12+ρ 0*ρ 13)=(ρ 1*(ρ 3*ρ 11+(ρ 0*ρ 0+ρ 1*ρ 1)*(ρ 6*ρ 12+ρ 9*ρ 13)+ρ 3*ρ 14)+ρ 0*(ρ 4*ρ 11+(ρ 0*ρ 0+ρ 1*ρ 1)*(ρ 7*ρ 12+ρ 10*ρ 13)+ρ 4*ρ 14))from fun ρ=>CR.ring ρ rfl) (CR.vr [c,s,a1,a2,a3,b1,b2,b3,e1,e2,e3,x,y,z,q])
end Go.Fw
