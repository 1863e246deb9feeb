/- A part of the proof that the law returns true for every input: an executor for the model's code, and what functions of the program compute. -/
import Derived.Test.YtcafjpldfnegiaaDoorB04
import Derived.ChangeKeysEq
import Derived.Laws.Tables
import Derived.Great.BuildSlice
import Derived.Laws.Append
import Derived.Laws.AppendOwn
import Derived.Laws.BytesArg
import Derived.Laws.IdiomStrings
open Go IntKind
namespace Go.Fw
section
variable{P:Program}{w0:Start}{w:World}{hp:List Blk}{I:Imm}{p:Pl}{slot:Nat}
theorem z3y {a v : MV} {n : Nat} {y : Value} (h : z4U a n = some v) (ha : a.rep I p y) :
    ∃ad:Addr,y= .pointer (some ad)∧v.rep I p (.pointer (some (ad.add n))):=by
 unfold z4U at h
 split at h
 · rename_i i off
   cases h
   simp only[MV.rep]at ha ⊢
   obtain⟨b,κ,h1,rfl⟩:=ha
   refine⟨_,rfl,b,κ,h1,?_⟩
   unfold Addr.add;split<;>simp_all
 · rename_i es off
   cases h
   simp only[MV.rep]at ha ⊢
   obtain⟨b,o,cs,rfl,h2,h3⟩:=ha
   refine⟨_,rfl,b,o,cs,?_,h2,h3⟩
   unfold Addr.add;split<;>simp_all[Nat.add_assoc]
 · cases h
theorem W6{T:TypeId}(h:z13 P T=true): ∃i,P.info? T=some i:=by
 unfold z13 at h
 exact Option.isSome_iff_exists.1 h
theorem z5g{T:TypeId}(h:P.cellsOf T≠0): ∃i,P.info? T=some i:=by
 unfold Program.cellsOf at h
 cases hi:P.info? T with
 |none=>simp[hi]at h
 |some i=>exact⟨i,rfl⟩
theorem z36 {s : TypeId} {x v : MV} {f : Nat} {y : Value} (h : z2L P s x f = some v) (hx : x.rep I p y) (w : World) :
    ∃z,(Instr.fieldAt s y f).run P w= .ok z w∧v.rep I p z:=by
 unfold z2L at h
 split at h
 · rename_i fields hu
   split at h
   · rename_i fd hf
     split at h
     · cases h
     · rename_i hne
       obtain⟨ad,rfl,hv⟩:=z3y h hx
       obtain⟨i,hi⟩:=z5g hne
       refine⟨_,?_,hv⟩
       simp[Instr.fieldAt,run_underlying hu,hf,Instr.sureAddr,fieldPlace,Z4 hi,hne]
   · cases h
 · cases h
theorem Y8(k:IntKind)(n:Int):(z14 k n).rep I p (.int k n):=by simp[z14,MV.rep,CV.rep]
theorem z1N(b:Bool):(z5u b).rep I p (.bool b):=by simp[z5u,MV.rep,CV.rep]
theorem z1a(s:ByteArray):(zbR s).rep I p (.string s):=by simp[zbR,MV.rep,CV.rep]
theorem J2{x y:Value}(h:(MV.cv (.lit x)).rep I p y):y=x:=by simpa[MV.rep,CV.rep]using h
theorem z34 {t : TypeId} {x i v : MV} {ob : List Prop} {y iv : Value} (h : z2O P t x i = some (v, ob)) (hob : ∀ q ∈ ob, q) (hx : x.rep I p y) (hi : i.rep I p iv) (w : World) :
    ∃z,(Instr.indexAt t y iv).run P w= .ok z w∧v.rep I p z:=by
 unfold z2O at h
 split at h
 · rename_i k n
   have hiv:=J2 hi
   subst hiv
   split at h
   · rename_i len elem hu
     split at h
     · rename_i ht
       obtain⟨ei,hei⟩:=W6 ht
       split at h
       · rename_i v' hv'
         cases h
         simp only[List.mem_cons,List.not_mem_nil,or_false,forall_eq]at hob
         obtain⟨ad,rfl,hv⟩:=z3y hv' hx
         refine⟨_,?_,hv⟩
         simp[Instr.indexAt,asIntOf,run_underlying hu,Instr.sureAddr,hob.1,hob.2,Z4 hei]
       · cases h
     · cases h
   · rename_i elem hu
     split at h
     · rename_i ht
       obtain⟨ei,hei⟩:=W6 ht
       split at h
       · rename_i b off len sz
         cases h
         simp only[List.mem_cons,List.not_mem_nil,or_false,forall_eq]at hob
         simp only[MV.rep]at hx
         obtain⟨b',κ,cap,h1,rfl,h2,h3⟩:=hx
         refine⟨.pointer (some ⟨b',off+n.toNat*P.cellsOf elem,none⟩),?_,?_⟩
         · have hadd : (⟨b', off, none⟩ : Addr).add (n.toNat * P.cellsOf elem) = ⟨b', off + n.toNat * P.cellsOf elem, none⟩ := by
             unfold Addr.add;split<;>simp_all
           simp[Instr.indexAt,asIntOf,run_underlying hu,hob.1,hob.2,Z4 hei,hadd]
         · simp only[MV.rep];exact⟨b',κ,h1,rfl⟩
       · rename_i len es
         cases h
         simp only[List.mem_cons,List.not_mem_nil,or_false,forall_eq]at hob
         simp only[MV.rep,CV.rep]at hx
         obtain⟨a,cap,rfl,h2,h3⟩:=hx
         rcases h3 with⟨_,h0⟩|⟨b',o,cs,rfl,hb,hl⟩
         · omega
         · refine⟨.pointer (some ⟨b',o+n.toNat*P.cellsOf elem,none⟩),?_,?_⟩
           · have hadd : (⟨b', o, none⟩ : Addr).add (n.toNat * P.cellsOf elem) = ⟨b', o + n.toNat * P.cellsOf elem, none⟩ := by
               unfold Addr.add;split<;>simp_all
             simp[Instr.indexAt,asIntOf,run_underlying hu,hob.1,hob.2,Z4 hei,hadd]
           · simp only[MV.rep];exact⟨b',o,cs,rfl,hb,hl⟩
       · cases h
     · cases h
   · cases h
 · cases h
theorem zav {T : TypeId} {d : TypeDesc} (hd : P.underlying T = some d) {cs : Array Value} {off : Nat} {l : List Value} (hl : l = (cs.toList.drop off).take (P.cellsOf T)) (hlen : l.length = P.cellsOf T)
    (h1:z07 d=false→P.cellsOf T=1) (w:World): ∃y,(part T cs off).run P w= .ok y w∧(z07 d=true→y= .agg l.toArray)∧(z07 d=false→l=[y]):=by
 cases ha:z07 d with
 |true=>
  refine⟨.agg l.toArray,?_,fun _=>rfl,(fun h=>by cases h)⟩
  have e:cs.extract off (off+P.cellsOf T)=l.toArray:=by
   apply Array.ext'
   rw[hl]
   simp
  simp[part,z2i hd,ha,z4z hd,e]
 |false=>
  have e1:=h1 ha
  rw[e1]at hlen hl
  obtain⟨y,rfl⟩:=List.length_eq_one_iff.1 hlen
  refine⟨y,?_,(fun h=>by cases h),fun _=>rfl⟩
  have:cs[off]?=some y:=by
   rw[List.take_one,List.head?_drop]at hl
   cases hc:cs.toList[off]? with
   |none=>rw[hc]at hl;simp at hl
   |some z=>rw[hc]at hl;simp at hl;subst hl;simpa using hc
  simp[part,z2i hd,ha,this]
theorem z0q{x:MV}{y:Value}{cs:List MV}(h:x.agg?=some cs)(hx:x.rep I p y): ∃ys,y= .agg ys∧MV.repL I p cs ys.toList:=by
 unfold MV.agg? at h
 split at h
 · rename_i cs'
   cases h
   simp only[MV.rep,CV.rep]at hx
   obtain⟨ys,rfl,hl⟩:=hx
   exact⟨ys,rfl,(MV.repL_map_cv _ _).2 hl⟩
 · rename_i a
   cases h
   have:=J2 hx
   subst this
   exact⟨a,rfl,z2l _⟩
 · cases h
   simp only[MV.rep]at hx
   exact hx
 · cases h
theorem z0g {T : TypeId} {cells : List MV} {v : MV} {cs : Array Value} {off : Nat} (hcs : MV.repL I p cells cs.toList) (hv : z5I P T cells off = some v) (w : World) :
    ∃z,(part T cs off).run P w= .ok z w∧v.rep I p z:=by
 unfold z5I at hv
 dsimp only at hv
 split at hv
 · rename_i hlen
   obtain⟨d,hd,_,_⟩:=z0r hv
   have hl:=MV.repL_take (P.cellsOf T) (MV.repL_drop off hcs)
   obtain⟨y,hy,g1,g2⟩:=zav (P:=P) hd (cs:=cs) (off:=off) rfl (by rw[←MV.repL_length hl];exact hlen) (fun hf=>by rw[←hlen];exact z4b hv hd hf) w
   exact⟨y,hy,z3A hv hd hl g1 g2⟩
 · cases hv
theorem z5F {t : TypeId} {x v : MV} {f : Nat} {y : Value} (h : z9i P t x f = some v) (hx : x.rep I p y) (w : World) :
    ∃z,(Instr.field t y f).run P w= .ok z w∧v.rep I p z:=by
 unfold z9i at h
 split at h
 · rename_i fields hu
   split at h
   · rename_i fd hf
     split at h
     · rename_i cells hc
       obtain⟨ys,rfl,hl⟩:=z0q hc hx
       obtain⟨z,hz,hr⟩:=z0g (P:=P) hl h w
       refine⟨z,?_,hr⟩
       simp[Instr.field,run_underlying hu,hf,asAgg,hz]
     · cases h
   · cases h
 · cases h
theorem z5V {t : TypeId} {x i v : MV} {ob : List Prop} {y iv : Value} (h : z8m P t x i = some (v, ob)) (hob : ∀ q ∈ ob, q) (hx : x.rep I p y) (hi : i.rep I p iv) (w : World) :
    ∃z,(Instr.index t y iv).run P w= .ok z w∧v.rep I p z:=by
 unfold z8m at h
 split at h
 · rename_i k n
   have hiv:=J2 hi
   subst hiv
   split at h
   · rename_i len elem hu
     split at h
     · rename_i cells hc
       split at h
       · rename_i ht
         obtain⟨ei,hei⟩:=W6 ht
         split at h
         · rename_i v' hv'
           cases h
           simp only[List.mem_cons,List.not_mem_nil,or_false,forall_eq]at hob
           obtain⟨ys,rfl,hl⟩:=z0q hc hx
           obtain⟨z,hz,hr⟩:=z0g (P:=P) hl hv' w
           refine⟨z,?_,hr⟩
           simp[Instr.index,asIntOf,run_underlying hu,hob.1,hob.2,Z4 hei,hz]
         · cases h
       · cases h
     · cases h
   · rename_i hu
     split at h
     · rename_i s
       cases h
       simp only[List.mem_cons,List.not_mem_nil,or_false,forall_eq]at hob
       have:=J2 hx
       subst this
       refine⟨_,?_,Y8 _ _⟩
       have hlt:n.toNat<s.size:=by omega
       have e:s[n.toNat]?=some (s.data.getD n.toNat 0):=by
        rw[getElem?_pos s n.toNat hlt]
        congr 1
        have h2:n.toNat<s.data.size:=hlt
        rw[Array.getD,dif_pos h2]
        rfl
       simp[Instr.index,asIntOf,run_underlying hu,hob.1,e]
     · cases h
   · cases h
 · cases h
theorem z4n {x v : MV} {i : Nat} {y : Value} (h : z4N x i = some v) (hx : x.rep I p y) (w : World) :
    ∃z,(Instr.extract y i).run P w= .ok z w∧v.rep I p z:=by
 unfold z4N at h
 split at h
 · rename_i vs
   simp only[Option.map_eq_some_iff]at h
   obtain⟨c,hc,rfl⟩:=h
   simp only[MV.rep,CV.rep]at hx
   obtain⟨ys,rfl,hl⟩:=hx
   obtain⟨z,hz,hr⟩:=CV.repL_get hl hc
   refine⟨z,?_,by simpa[MV.rep]using hr⟩
   simp at hz
   simp[Instr.extract,hz]
 · rename_i vs
   simp only[MV.rep]at hx
   obtain⟨ys,rfl,hl⟩:=hx
   obtain⟨z,hz,hr⟩:=MV.repL_get hl h
   refine⟨z,?_,hr⟩
   simp at hz
   simp[Instr.extract,hz]
 · cases h
theorem z9m {op : UnOp} {x v : MV} {y : Value} (h : unM op x = some v) (hx : x.rep I p y) (w : World) :
    ∃z,(Op.unary op y).run P w= .ok z w∧v.rep I p z:=by
 unfold unM at h
 split at h
 · rename_i k n
   cases h;have:=J2 hx;subst this
   exact⟨_,by simp[Op.unary,Op.intArith],Y8 _ _⟩
 · rename_i k n
   cases h;have:=J2 hx;subst this
   exact⟨_,by simp[Op.unary,Op.intBits,Y2],Y8 _ _⟩
 · rename_i b
   cases h;have:=J2 hx;subst this
   exact⟨_,by simp[Op.unary],z1N _⟩
 · cases h
theorem z6k {s d : TypeId} {x v : MV} {y : Value} (h : zdO P s d x = some v) (hx : x.rep I p y) (w : World) :
    ∃z,(convert s d y).run P w= .ok z w∧v.rep I p z:=by
 unfold zdO at h
 split at h
 · rename_i k0 k k1 n hs hd
   cases h;have:=J2 hx;subst this
   exact⟨_,by simp[convert,run_underlying hs,run_underlying hd,Conv.intToInt],Y8 _ _⟩
 · rename_i s' hs hd
   cases h;have:=J2 hx;subst this
   exact⟨_,by simp[convert,run_underlying hs,run_underlying hd],z1a _⟩
 · rename_i k0 k1 n hs hd
   cases h;have:=J2 hx;subst this
   exact⟨_,by simp[convert,run_underlying hs,run_underlying hd,Conv.intToString],z1a _⟩
 · cases h
theorem z7P {ts : Array TypeId} {T t : TypeId} {x v : MV} {y : Value} (ht : ts[0]? = some t) (h : zh7 P t x = some v) (hx : x.rep I p y) (w : World) :
    ∃z,(Builtin.len_ ts T #[y]).run P w= .ok z w∧v.rep I p z:=by
 unfold zh7 at h
 split at h
 · rename_i s hu
   cases h;have:=J2 hx;subst this
   exact⟨_,by simp[Builtin.len_,ht,run_underlying hu,goInt],Y8 _ _⟩
 · rename_i n elem hu
   cases h
   exact⟨_,by simp[Builtin.len_,ht,run_underlying hu,goInt],Y8 _ _⟩
 · rename_i n es hu
   cases h
   simp only[MV.rep,CV.rep]at hx
   obtain⟨a,cap,rfl,_⟩:=hx
   exact⟨_,by simp[Builtin.len_,ht,run_underlying hu,goInt],Y8 _ _⟩
 · rename_i n es hu
   cases h
   simp only[MV.rep]at hx
   obtain⟨b,κ,cap,_,rfl,_⟩:=hx
   exact⟨_,by simp[Builtin.len_,ht,run_underlying hu,goInt],Y8 _ _⟩
 · rename_i n es hu
   cases h;have:=J2 hx;subst this
   exact⟨_,by simp[Builtin.len_,ht,run_underlying hu,goInt],Y8 _ _⟩
 · cases h
end
section
variable{P:Program}{w0:Start}{w:World}{hp:List Blk}{I:Imm}{p:Pl}{slot:Nat}
theorem z7j {op : BinOp} {k : IntKind} {a b : Int} {v : MV} {ob : List Prop} (h : zh4 op k a b = some (v, ob)) (hob : ∀ q ∈ ob, q) (t : TypeId) (w : World) :
    ∃z,(binOp op t (.int k a) (.int k b)).run P w= .ok z w∧v.rep I p z:=by
 unfold zh4 at h
 split at h
 all_goals first
  |cases h
  |skip
 case h_1=>exact⟨_,by simp[binOp,Op.intArith],Y8 _ _⟩
 case h_2=>exact⟨_,by simp[binOp,Op.intArith],Y8 _ _⟩
 case h_3=>exact⟨_,by simp[binOp,Op.intArith],Y8 _ _⟩
 case h_4=>
  simp only[List.mem_cons,List.not_mem_nil,or_false,forall_eq]at hob
  exact⟨_,by simp[binOp,Op.intDiv,hob],Y8 _ _⟩
 case h_5=>
  simp only[List.mem_cons,List.not_mem_nil,or_false,forall_eq]at hob
  exact⟨_,by simp[binOp,Op.intDiv,hob],Y8 _ _⟩
 case h_6=>exact⟨_,by simp[binOp,Op.intBits,Y2],Y8 _ _⟩
 case h_7=>exact⟨_,by simp[binOp,Op.intBits,Y2],Y8 _ _⟩
 case h_8=>exact⟨_,by simp[binOp,Op.intBits,Y2],Y8 _ _⟩
 case h_9=>exact⟨_,by simp[binOp,Op.intBits,Y2],Y8 _ _⟩
 rename_i h1 h2 h3 h4 h5 h6 h7 h8 h9 h10 h11
 split at h
 · rename_i t' hc
   cases h
   refine⟨.bool t',?_,z1N _⟩
   unfold zhd at hc
   split at hc
   all_goals first
    |(cases hc;done)
    |skip
   all_goals (cases hc;simp[binOp,Op.intCmp])
 · cases h
theorem z7r {op : BinOp} {a b : ByteArray} {v : MV} {ob : List Prop} (h : zgW op a b = some (v, ob)) (hob : ∀ q ∈ ob, q) (t : TypeId) (w : World) :
    ∃z,(binOp op t (.string a) (.string b)).run P w= .ok z w∧v.rep I p z:=by
 unfold zgW at h
 dsimp only at h
 split at h
 all_goals first
  |(cases h;done)
  |skip
 case h_1=>
  cases h
  simp only[List.mem_cons,List.not_mem_nil,or_false,forall_eq]at hob
  refine⟨.string (a++b),?_,z1a _⟩
  simp only[binOp,Op.stringOp]
  rw[if_neg (by omega)]
  rfl
 all_goals (cases h;exact⟨_,by simp[binOp,Op.stringOp],z1N _⟩)
theorem z53 {dd : TypeDesc} {x y : MV} {b : Bool} {u v : Value} (h : z6y dd x y = some b) (hx : x.rep I p u) (hy : y.rep I p v) {t : TypeId} (ht : P.underlying t = some dd)
    (d:Nat) (w:World):(Op.equalIn (d+1) t u v).run P w= .ok b w:=by
 unfold z6y at h
 split at h
 · cases h
   have h1:=J2 hx;have h2:=J2 hy;subst h1;subst h2
   simp[Op.equalIn,run_underlying ht]
 · split at h
   · rename_i hk
     cases h
     have h1:=J2 hx;have h2:=J2 hy;subst h1;subst h2;subst hk
     simp[Op.equalIn,run_underlying ht]
   · cases h
 · cases h
   have h1:=J2 hx;have h2:=J2 hy;subst h1;subst h2
   simp[Op.equalIn,run_underlying ht]
 · cases h
theorem z48: ∀(d k:Nat) (t:TypeId) (x y:MV) (b:Bool) (u v:Value),eqT P d t x y=some b→x.rep I p u→y.rep I p v→ ∀w:World,(Op.equalIn (k+d) t u v).run P w= .ok b w
 |0,k,t,x,y,b,u,v,h,_,_,w=>by simp[eqT]at h
 |d+1,k,t,x,y,b,u,v,h,hx,hy,w=>by
  have ih:=z48 d k
  simp only[eqT]at h
  split at h
  · rename_i fs hu
    split at h
    · cases h
    · rename_i hst
      split at h
      · rename_i cx cy hcx hcy
        obtain⟨xs,rfl,hlx⟩:=z0q hcx hx
        obtain⟨ys,rfl,hly⟩:=z0q hcy hy
        have hfo:P.fieldsOf t=fs:=by simp[Program.fieldsOf,hu]
        rw[show k+(d+1)=(k+d)+1 from rfl,run_equalIn_struct w (k+d) t xs ys (by rw[hfo];exact hu) (by simpa using hst),hfo]
        clear hu hfo
        revert h b
        generalize fs.toList=l
        induction l with
        |nil=>intro b h;simp only[zgv]at h;cases h;simp[Op.eqFields]
        |cons f l ihl=>
         intro b h
         simp only[zgv]at h
         split at h
         · cases h
         · rename_i hname
           split at h
           · rename_i b1 c1 h1 h2
             cases h
             split at h1
             · rename_i a1 a2 ha1 ha2
               obtain⟨z1,hz1,hr1⟩:=z0g (P:=P) hlx ha1 w
               obtain⟨z2,hz2,hr2⟩:=z0g (P:=P) hly ha2 w
               have he:=ih f.type a1 a2 b1 z1 z2 h1 hr1 hr2 w
               have hr:=ihl c1 h2
               have hne:f.name≠ "_" :=by simpa using hname
               simp only[Op.eqFields,hne,ne_eq,not_false_eq_true,if_true,Sem.run_bind,hz1,hz2,he,Result.andThen_ok]
               cases b1
               · simp
               · simpa using hr
             · cases h1
           · cases h
      · cases h
  · rename_i n e hu
    split at h
    · cases h
    · rename_i hty
      split at h
      · rename_i cx cy hcx hcy
        obtain⟨xs,rfl,hlx⟩:=z0q hcx hx
        obtain⟨ys,rfl,hly⟩:=z0q hcy hy
        obtain⟨ei,hei⟩:=W6 (P:=P) (T:=e) (by simpa using hty)
        rw[show k+(d+1)=(k+d)+1 from rfl,run_equalIn_array w (k+d) xs ys hu hei]
        clear hu
        revert h b
        generalize List.range n=l
        induction l with
        |nil=>intro b h;simp only[zgx]at h;cases h;simp[Op.eqItems]
        |cons i l ihl=>
         intro b h
         simp only[zgx]at h
         split at h
         · rename_i b1 c1 h1 h2
           cases h
           split at h1
           · rename_i a1 a2 ha1 ha2
             obtain⟨z1,hz1,hr1⟩:=z0g (P:=P) hlx ha1 w
             obtain⟨z2,hz2,hr2⟩:=z0g (P:=P) hly ha2 w
             have he:=ih e a1 a2 b1 z1 z2 h1 hr1 hr2 w
             have hr:=ihl c1 h2
             simp only[Op.eqItems,Sem.run_bind,hz1,hz2,he,Result.andThen_ok]
             cases b1
             · simp
             · simpa using hr
           · cases h1
         · cases h
      · cases h
  · rename_i dd _ _ hu
    exact z53 h hx hy hu (k+d) w
  · cases h
theorem z7o {op : BinOp} {t : TypeId} {x y v : MV} {ob : List Prop} {a b : Value} (h : zgR P op t x y = some (v, ob)) (hob : ∀ q ∈ ob, q) (hx : x.rep I p a) (hy : y.rep I p b)
    (o1 o2:Operand) (w:World): ∃z,(do eqGuard op t o1 o2 a b;binOp op t a b:Sem Value).run P w= .ok z w∧v.rep I p z:=by
 have plain:(∀u,a≠ .agg u)→a≠ .nilIface→(eqGuard op t o1 o2 a b).run P w= .ok () w:=by
  intro h1 h2
  cases op<;>simp[eqGuard]
  all_goals (split<;>simp_all)
 unfold zgR at h
 split at h
 · rename_i k n k' m
   have e1:=J2 hx;have e2:=J2 hy;subst e1;subst e2
   have hg:=plain (by simp) (by simp)
   simp only[Sem.run_bind,hg,Result.andThen_ok]
   split at h
   · cases h
     simp only[List.mem_cons,List.not_mem_nil,or_false,forall_eq]at hob
     exact⟨_,by simp[binOp,Op.shift,show ¬m<0 by omega],Y8 _ _⟩
   · cases h
     simp only[List.mem_cons,List.not_mem_nil,or_false,forall_eq]at hob
     exact⟨_,by simp[binOp,Op.shift,show ¬m<0 by omega],Y8 _ _⟩
   · split at h
     · rename_i hk
       subst hk
       exact z7j h hob t w
     · cases h
 · have e1:=J2 hx;have e2:=J2 hy;subst e1;subst e2
   have hg:=plain (by simp) (by simp)
   simp only[Sem.run_bind,hg,Result.andThen_ok]
   exact z7r h hob t w
 · rename_i c d
   have e1:=J2 hx;have e2:=J2 hy;subst e1;subst e2
   have hg:=plain (by simp) (by simp)
   simp only[Sem.run_bind,hg,Result.andThen_ok]
   split at h
   · rename_i hu'
     split at h
     · cases h;exact⟨_,run_eql_bool w t c d hu',z1N _⟩
     · cases h;exact⟨_,run_neq_bool w t c d hu',z1N _⟩
     · cases h
   · cases h
 · split at h
   · rename_i cx cy hcx hcy
     split at h
     · cases h
     · rename_i hgd
       obtain⟨xs,rfl,hlx⟩:=z0q hcx hx
       obtain⟨ys,rfl,hly⟩:=z0q hcy hy
       have hg:=run_eqGuard_agg (P:=P) w op t o1 o2 xs ys (by simpa using hgd)
       simp only[Sem.run_bind,hg,Result.andThen_ok]
       split at h
       · rename_i b' hb
         cases h
         have he:=z48 20 9980 t _ _ b' _ _ hb hx hy w
         exact⟨_,by rw[run_eql_struct];simp[he],z1N _⟩
       · rename_i b' hb
         cases h
         have he:=z48 20 9980 t _ _ b' _ _ hb hx hy w
         exact⟨_,by rw[run_neq_struct];simp[he],z1N _⟩
       · cases h
   · cases h
end
section
variable{P:Program}{w0:Start}{w:World}{hp:List Blk}{I:Imm}{p:Pl}{slot:Nat}
theorem z5Y : ∀ (l : List Value) (k off : Nat) (cells : Array Value), off + k + l.length ≤ cells.size →
    ((l.zipIdx k).foldl (fun(cs:Array Value) (x:Value×Nat)=>cs.setIfInBounds (off+x.2) x.1) cells).toList=cells.toList.take (off+k)++l++cells.toList.drop (off+k+l.length)
 | [],k,off,cells,_=>by simp
 |c::l,k,off,cells,h=>by
  simp only[List.zipIdx_cons,List.foldl_cons]
  have ih:=z5Y l (k+1) off (cells.setIfInBounds (off+k) c) (by simp at h ⊢;omega)
  rw[ih]
  simp only[Array.toList_setIfInBounds]
  simp only[List.length_cons]at h
  have hk:off+k<cells.toList.length:=by simp;omega
  have hk2:off+k<(cells.toList.set (off+k) c).length:=by simpa using hk
  have e1:(cells.toList.set (off+k) c).take (off+(k+1))=cells.toList.take (off+k)++[c]:=by
   rw[show off+(k+1)=off+k+1 by omega,List.take_succ_eq_append_getElem hk2]
   simp[List.take_set_of_le]
  have e2:(cells.toList.set (off+k) c).drop (off+(k+1)+l.length)=cells.toList.drop (off+k+(l.length+1)):=by
   rw[List.drop_set_of_lt (by omega)]
   congr 1
   omega
  rw[e1,e2]
  simp
theorem z0E (place : Nat → Option (Nat × Nat)) : ∀ (parts : List (Nat × MV)) (rparts : List (Nat × Value)) (cells cells' : List MV) (rc : Array Value),
    z3V place cells parts=some cells'→MV.repL I p cells rc.toList→rparts.map (·.1)=parts.map (·.1)→MV.repL I p (parts.map (·.2)) (rparts.map (·.2))→
    ∃rc',Instr.fill place rc rparts=some rc'∧MV.repL I p cells' rc'.toList
 | [],rparts,cells,cells',rc,h,hc,hi,_=>by
  simp at hi;subst hi
  simp[z3V]at h;subst h
  exact⟨rc,rfl,hc⟩
 |(i,m)::parts,rparts,cells,cells',rc,h,hc,hi,hl=>by
  cases rparts with
  |nil=>simp at hi
  |cons x rparts=>
   obtain⟨i',v⟩:=x
   simp only[List.map_cons,List.cons.injEq]at hi
   obtain⟨rfl,hi⟩:=hi
   simp only[List.map_cons,MV.repL]at hl
   obtain⟨y,ys,e,hv,hl⟩:=hl
   cases e
   simp only[z3V]at h
   split at h
   · cases h
   · rename_i off size hpl
     split at h
     · rename_i hcond
       simp only[Bool.and_eq_true,decide_eq_true_eq]at hcond
       obtain⟨⟨hk,hsz⟩,hfit⟩:=hcond
       have hcells:=MV.cells_rep hv hk
       have hlen:=MV.repL_length hcells
       have hlc:=MV.repL_length hc
       simp only[Array.length_toList]at hlen hlc
       have hfl:=z5Y v.cells.toList 0 off rc (by simp;omega)
       simp only[Nat.add_zero]at hfl
       obtain⟨rc',hf,hr⟩:=z0E place parts rparts _ cells' ((v.cells.toList.zipIdx 0).foldl (fun(cs:Array Value) (x:Value×Nat)=>cs.setIfInBounds (off+x.2) x.1) rc) h
        (by rw[hfl];have:=z2R off hc hcells;rw[hlen]at this;simpa using this) hi hl
       refine⟨rc',?_,hr⟩
       simp only[Instr.fill,hpl]
       rw[if_neg (by simp;omega)]
       rw[←hf]
       congr 1
       rw[←Array.foldl_toList]
       simp
     · cases h
theorem z5M {ev : Operand → MV} {ρ : Operand → Value} (ps : List (Nat × Operand)) (h : ∀ x ∈ ps.map (·.2), (ev x).rep I p (ρ x)) :
    MV.repL I p ((ps.map fun q=>(q.1,ev q.2)).map (·.2)) ((ps.map fun q=>(q.1,ρ q.2)).map (·.2)):=by
 refine(MV.repL_iff _ _).2 ⟨by simp,fun i c y hc hy=>?_⟩
 simp only[List.map_map,List.getElem?_map,Option.map_eq_some_iff]at hc hy
 obtain⟨a,ha,rfl⟩:=hc
 obtain⟨b,hb,rfl⟩:=hy
 rw[ha]at hb;cases hb
 exact h _ (List.mem_map_of_mem (List.mem_of_getElem? ha))
theorem z5A {t : TypeId} {parts : List (Nat × MV)} {rparts : Array (Nat × Value)} {v : MV} (h : z94 P t parts = some v) (hi : rparts.toList.map (·.1) = parts.map (·.1))
    (hl:MV.repL I p (parts.map (·.2)) (rparts.toList.map (·.2))) (w:World): ∃z,(Instr.build t rparts).run P w= .ok z w∧v.rep I p z:=by
 unfold z94 at h
 split at h
 · rename_i zero fields hz hu
   obtain⟨it,zv,h1,h2,rfl⟩:=Z8 hz
   split at h
   · rename_i hty
     simp only[Option.map_eq_some_iff]at h
     obtain⟨cells,hf,rfl⟩:=h
     have hall: ∀f∈fields.toList,z13 P f.type=true:=List.all_eq_true.1 hty
     have hpl:fields.toList.mapM (fun f=>(P.info? f.type).map fun i=>(f.offset,i.size))=some (fields.toList.map fun f=>(f.offset,P.cellsOf f.type)):=by
      clear hf hty hu
      revert hall
      generalize fields.toList=fs
      intro hall
      induction fs with
      |nil=>rfl
      |cons f fs ih=>
       obtain⟨i,hi⟩:=W6 (hall f (by simp))
       have:=ih (fun g hg=>hall g (by simp[hg]))
       simp[List.mapM_cons,hi,this,Program.cellsOf]
     obtain⟨rc',hf',hr⟩:=z0E (I:=I) (p:=p) _ parts rparts.toList _ cells zv.cells hf (z2l _) hi hl
     refine⟨_,run_build w t rparts rc' ?_,by simp only[MV.rep];exact⟨rc',rfl,hr⟩⟩
     simp only[Program.built,h1,hu,h2,hpl]
     rw[←hf']
     congr 1
     funext i
     simp
   · cases h
 · rename_i zero n elem hz hu
   obtain⟨it,zv,h1,h2,rfl⟩:=Z8 hz
   split at h
   · rename_i hty
     obtain⟨ie,hie⟩:=W6 hty
     simp only[Option.map_eq_some_iff]at h
     obtain⟨cells,hf,rfl⟩:=h
     obtain⟨rc',hf',hr⟩:=z0E (I:=I) (p:=p) _ parts rparts.toList _ cells zv.cells hf (z2l _) hi hl
     refine⟨_,run_build w t rparts rc' ?_,by simp only[MV.rep];exact⟨rc',rfl,hr⟩⟩
     simp only[Program.built,h1,hu,h2,hie]
     rw[←hf']
     simp[Program.cellsOf,hie]
   · cases h
 · cases h
theorem z2q{z:Value}(n:Nat)(hn:n=0∨0<z.cells.size):MV.repL I p (z0J (z.cells.toList.map fun x=> .cv (.lit x)) n) (madeCells z.cells n).toList:=by
 have hget: ∀i y,(madeCells z.cells n).toList[i]?=some y→i<n∧z.cells[i%z.cells.size]?=some y:=by
  intro i y hy
  simp only[madeCells,Array.toList_map,Array.toList_range,List.getElem?_map,Option.map_eq_some_iff]at hy
  obtain⟨j,hj,rfl⟩:=hy
  rw[List.getElem?_eq_some_iff]at hj
  obtain⟨hlt,hj⟩:=hj
  simp at hlt hj
  subst hj
  refine⟨hlt,?_⟩
  have hpos:0<z.cells.size:=by omega
  have:=Nat.mod_lt i hpos
  simp[this]
 unfold z0J
 split
 · rename_i m hm
   have h1:z.cells.toList.length=1:=by have:=congrArg List.length hm;simpa using this
   obtain⟨y0,hy0⟩:=List.length_eq_one_iff.1 h1
   rw[hy0]at hm
   simp at hm
   refine(MV.repL_iff _ _).2 ⟨by simp[madeCells],fun i c y hc hy=>?_⟩
   obtain⟨hi,hg⟩:=hget i y hy
   rw[List.getElem?_replicate,if_pos hi]at hc
   cases hc;subst hm
   have hs:z.cells.size=1:=by simpa using h1
   have:z.cells[0]?=some y0:=by have:=congrArg (·[0]?) hy0;simpa using this
   rw[hs,Nat.mod_one,this]at hg
   cases hg
   simp[MV.rep,CV.rep]
 · refine(MV.repL_iff _ _).2 ⟨by simp[madeCells],fun i c y hc hy=>?_⟩
   obtain⟨hi,hg⟩:=hget i y hy
   rw[List.getElem?_map]at hc
   have hr:(List.range n)[i]?=some i:=by simp[hi]
   rw[hr]at hc
   simp only[Option.map_some,Option.some.injEq,List.length_map,Array.length_toList]at hc
   subst hc
   have:(z.cells.toList.map fun x=>MV.cv (CV.lit x))[i%z.cells.size]?=some (.cv (.lit y)):=by
    rw[List.getElem?_map];simp[hg]
   simp[List.getD,this,MV.rep,CV.rep]
end
end Go.Fw
