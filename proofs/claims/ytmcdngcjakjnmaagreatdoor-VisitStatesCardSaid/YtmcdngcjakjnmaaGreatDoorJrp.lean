/- Compact and DeleteFunc at messages: plain lists, the loops' states. -/
import Derived.Test.YtmcdngcjakjnmaaGreatDoorJrm
namespace Go.Eng
structure PreC {α:Type} (c:α->α->Int):Prop where
 neg:∀x y,c y x<0↔0<c x y
 trans:∀x y z,c x y<=0->c y z<=0->c x z<=0
namespace PreC
variable {α β:Type} {c:α->α->Int}
theorem self(h:PreC c)(x:α):c x x=0:=by
 have:=h.neg x x;omega
theorem lt_le(h:PreC c){x y z:α}(a:c x y<0)(b:c y z<=0):c x z<0:=by
 have h1:=h.trans x y z (by omega) b;have h2:=h.neg x z;have h3:=h.neg z x
 rcases Int.lt_or_eq_of_le h1 with h' | h'
 ·exact h'
 ·have h4:c z x<=0:=by omega
  have h5:=h.trans y z x b h4;have:=h.neg y x;omega
theorem le_lt(h:PreC c){x y z:α}(a:c x y<=0)(b:c y z<0):c x z<0:=by
 have h1:=h.trans x y z a (by omega);have h2:=h.neg x z;have h3:=h.neg z x
 rcases Int.lt_or_eq_of_le h1 with h' | h'
 ·exact h'
 ·have h4:c z x<=0:=by omega
  have h5:=h.trans z x y h4 a;have:=h.neg z y;omega
theorem lt_trans(h:PreC c){x y z:α}(a:c x y<0)(b:c y z<0):c x z<0:=h.lt_le a (by omega)
theorem eq_symm(h:PreC c){x y:α}(a:c x y=0):c y x=0:=by
 have h1:=h.neg x y;have h2:=h.neg y x;omega
theorem comap(h:PreC c)(f:β->α):PreC λx y=>c (f x) (f y):=⟨λ_x _y=>h.neg _ _,λ_x _y _z=>h.trans _ _ _⟩
end PreC
def orL:List Int->Int
 |[]=>0
 |x::l=>bif decide (x=0) then orL l else x
theorem PreC.nil{α:Type}:PreC λ(_ _:α)=>orL []:=⟨λ_ _=>by simp[orL],λ_ _ _ _ _=>by simp[orL]⟩
theorem PreC.or{α:Type}{c:α->α->Int}{d:α->α->List Int}(h:PreC c)(k:PreC λx y=>orL (d x y)):PreC λx y=>orL (c x y::d x y):=by
 have e:∀x y,orL (c x y::d x y)=if c x y=0 then orL (d x y) else c x y:=λx y=>by
  rw[orL];by_cases q:c x y=0<;>simp[q]
 refine⟨λx y=>?_,λx y z h1 h2=>?_⟩
 ·rw[e,e];have h1:=h.neg x y;have h2:=h.neg y x;have h3:=k.neg x y
  by_cases q:c x y=0
  ·rw[if_pos q,if_pos (h.eq_symm q)];exact h3
  ·rw[if_neg q,if_neg (λq'=>q (h.eq_symm q'))];exact h1
 ·rw[e] at h1 h2 ⊢
  by_cases q:c x y=0
  ·rw[if_pos q] at h1
   by_cases q':c y z=0
   ·rw[if_pos q'] at h2;have a1:=h.trans x y z (by omega) (by omega);have a2:=h.trans z y x (by have:=h.eq_symm q';omega) (by have:=h.eq_symm q;omega);have a3:=h.neg z x;rw[if_pos (by omega)];exact k.trans x y z h1 h2
   ·rw[if_neg q'] at h2;have a1:=h.le_lt (x:=x) (y:=y) (z:=z) (by omega) (by omega);rw[if_neg (by omega)];exact Int.le_of_lt a1
  ·rw[if_neg q] at h1;have:c y z<=0:=by
    by_cases q':c y z=0
    ·omega
    ·rw[if_neg q'] at h2;exact h2
   have a1:=h.lt_le (x:=x) (y:=y) (z:=z) (by omega) this;rw[if_neg (by omega)];exact Int.le_of_lt a1
theorem woh{x:Int}{l:List Int}:orL (x::l)=0↔x=0/\orL l=0:=by
 rw[orL]
 by_cases h:x=0<;>simp[h]
def cmpI(a b:Int):Int:=bif decide (a<b) then -1 else bif decide (b<a) then 1 else 0
def cmpS(a b:List UInt8):Int:=bif Op.bytesLess a b then -1 else bif Op.bytesLess b a then 1 else 0
theorem wfg(a b:Int):(a<b/\cmpI a b= -1)∨(a=b/\cmpI a b=0)∨(b<a/\cmpI a b=1):=by
 unfold cmpI
 by_cases h:a<b
 ·simp[h]
 ·by_cases h':b<a
  ·simp[h,h']
  ·have:a=b:=by omega
   simp[this]
theorem wdd:PreC cmpI:=by
 refine⟨λx y=>?_,λx y z=>?_⟩
 ·have:=wfg x y;have:=wfg y x;omega
 ·have:=wfg x y;have:=wfg y z;have:=wfg x z;omega
theorem wp4{a b:Int}:cmpI a b=0↔a=b:=by have:=wfg a b;omega
theorem wga:∀a:List UInt8,Op.bytesLess a a=false
 |[]=>rfl
 |a::x=>by simp[Op.bytesLess,wga x]
theorem bl_tri:∀a b:List UInt8,Op.bytesLess a b=true∨a=b∨Op.bytesLess b a=true
 |[],[]=>.inr (.inl rfl)
 |[],_::_=>.inl rfl
 |_::_,[]=>.inr (.inr rfl)
 |a::x,b::y=>by
  simp only[Op.bytesLess,Bool.or_eq_true,bA7,decide_eq_true_eq,beq_iff_eq]
  rcases bl_tri x y with h | h | h
  ·by_cases e:a=b
   ·exact .inl (.inr ⟨e,h⟩)
   ·rcases Nat.lt_or_gt_of_ne (λq=>e (UInt8.toNat_inj.1 q)) with q | q
    ·exact .inl (.inl q)
    ·exact .inr (.inr (.inl q))
  ·by_cases e:a=b
   ·exact .inr (.inl (by rw[e,h]))
   ·rcases Nat.lt_or_gt_of_ne (λq=>e (UInt8.toNat_inj.1 q)) with q | q
    ·exact .inl (.inl q)
    ·exact .inr (.inr (.inl q))
  ·by_cases e:a=b
   ·exact .inr (.inr (.inr ⟨e.symm,h⟩))
   ·rcases Nat.lt_or_gt_of_ne (λq=>e (UInt8.toNat_inj.1 q)) with q | q
    ·exact .inl (.inl q)
    ·exact .inr (.inr (.inl q))
theorem wp9:∀a b c:List UInt8,Op.bytesLess a b=true->Op.bytesLess b c=true->Op.bytesLess a c=true
 |_,[],_,h,_=>by cases ‹List UInt8› <;>simp[Op.bytesLess] at h
 |_,_::_,[],_,h=>by simp[Op.bytesLess] at h
 |[],_::_,_::_,_,_=>rfl
 |a::x,b::y,c::z,h,k=>by
  simp only[Op.bytesLess,Bool.or_eq_true,bA7,decide_eq_true_eq,beq_iff_eq] at h k ⊢
  rcases h with h | ⟨rfl,h⟩
  ·rcases k with k | ⟨rfl,k⟩
   ·exact .inl (UInt8.lt_trans h k)
   ·exact .inl h
  ·rcases k with k | ⟨rfl,k⟩
   ·exact .inl k
   ·exact .inr ⟨rfl,wp9 x y z h k⟩
theorem wqa{a b:List UInt8}(h:Op.bytesLess a b=true):Op.bytesLess b a=false:=by
 cases q:Op.bytesLess b a with
 |false=>rfl
 |true=>have:=wp9 a b a h q;rw[wga] at this;cases this
theorem why(a b:List UInt8):(Op.bytesLess a b=true/\cmpS a b= -1)∨(a=b/\cmpS a b=0)∨(Op.bytesLess b a=true/\cmpS a b=1):=by
 unfold cmpS
 rcases bl_tri a b with h | h | h
 ·exact .inl ⟨h,by rw[h];rfl⟩
 ·subst h;exact .inr (.inl ⟨rfl,by rw[wga];rfl⟩)
 ·exact .inr (.inr ⟨h,by rw[wqa h,h];rfl⟩)
theorem whx{a b:List UInt8}:cmpS a b=0↔a=b:=by
 constructor
 ·intro h
  rcases why a b with⟨_,q⟩ | ⟨q,_⟩ | ⟨_,q⟩
  ·omega
  ·exact q
  ·omega
 ·rintro rfl;unfold cmpS;rw[wga];rfl
theorem wuq{a b:List UInt8}:cmpS a b<0↔Op.bytesLess a b=true:=by
 rcases why a b with⟨h,q⟩ | ⟨h,q⟩ | ⟨h,q⟩
 ·exact⟨λ_=>h,λ_=>by omega⟩
 ·subst h;rw[wga,q];simp
 ·rw[wqa h,q];simp
theorem wdc:PreC cmpS:=by
 refine⟨λx y=>?_,λx y z h1 h2=>?_⟩
 ·rw[wuq]
  rcases why x y with⟨h,q⟩ | ⟨h,q⟩ | ⟨h,q⟩
  ·rw[wqa h,q];simp
  ·subst h;rw[wga,q];simp
  ·rw[h,q];simp
 ·rcases why x y with⟨h,q⟩ | ⟨h,q⟩ | ⟨h,q⟩
  ·rcases why y z with⟨h',q'⟩ | ⟨h',q'⟩ | ⟨h',q'⟩
   ·have:=wuq.2 (wp9 x y z h h');omega
   ·subst h';omega
   ·omega
  ·subst h;exact h2
  ·omega
def Asc{α:Type}(c:α->α->Int)(l:List α):Prop:=l.Pairwise λx y=>c x y<0
theorem Asc.uniq{α:Type}{c:α->α->Int}(hc:PreC c):∀ {l l':List α},Asc c l->Asc c l'->(∀x,x∈l↔x∈l')->l=l'
 |[],[],_,_,_=>rfl
 |[],y::l',_,_,h=>by have:=(h y).2 (List.mem_cons_self ..);cases this
 |x::l,[],_,_,h=>by have:=(h x).1 (List.mem_cons_self ..);cases this
 |x::l,y::l',h1,h2,h=>by
  obtain⟨a1,a2⟩:=List.pairwise_cons.1 h1;obtain⟨b1,b2⟩:=List.pairwise_cons.1 h2;have e:x=y:=by
   rcases List.mem_cons.1 ((h x).1 (List.mem_cons_self ..)) with q | q
   ·exact q
   ·rcases List.mem_cons.1 ((h y).2 (List.mem_cons_self ..)) with q' | q'
    ·exact q'.symm
    ·have e1:=b1 x q;have e2:=a1 y q';have:=hc.lt_trans e1 e2;rw[hc.self] at this;omega
  subst e;have irr:∀ {l:List α},(∀z,z∈l->c x z<0)->x ∉ l:=λhl hx=>by have:=hl x hx;rw[hc.self] at this;omega
  rw[Asc.uniq hc a2 b2 λz=>⟨λhz=>?_,λhz=>?_⟩]
  ·rcases List.mem_cons.1 ((h z).1 (List.mem_cons_of_mem _ hz)) with q | q
   ·exact absurd (q ▸ hz) (irr a1)
   ·exact q
  ·rcases List.mem_cons.1 ((h z).2 (List.mem_cons_of_mem _ hz)) with q | q
   ·exact absurd (q ▸ hz) (irr b1)
   ·exact q
theorem Asc.of_sorted{α:Type}{c:α->α->Int}{l:List α}(h:l.Pairwise λx y=>¬ c y x<0)(hc:PreC c)(hn:l.Pairwise λx y=>c x y≠0):Asc c l:=by
 refine(h.and hn).imp ?_;rintro x y ⟨a,b⟩;have:=hc.neg x y;omega
theorem wr2{α:Type}{r:α->α->Prop}{n:Nat}{f:Nat->α}(h:∀i j,i<j->j<n->r (f i) (f j)):((List.range n).map f).Pairwise r:=by
 rw[List.pairwise_map];exact List.pairwise_lt_range.imp_of_mem λ{i j} _ hj hij=>h i j hij (List.mem_range.1 hj)
def wbg(nm:Nat->List UInt8):Nat->List (AV×AV)
 |0=>[]
 |k+1=>wbg nm k++[(.str (nm k),.bool true)]
theorem wsk(nm:Nat->List UInt8)(x:List UInt8):∀j,mget (wbg nm j) (.str x)=bif (List.range j).any (λi=>decide (nm i=x)) then some (.bool true) else none
 |0=>rfl
 |j+1=>by
  have app:∀(l:List (AV×AV)) (k:AV) (p:AV×AV),mget (l++[p]) k=(mget l k).or (bif keq p.1 k then some p.2 else none):=by
   intro l k p
   induction l with
   |nil=>simp only[List.nil_append,mget];cases keq p.1 k<;>rfl
   |cons q l ih=>
    simp only[List.cons_append,mget]
    cases keq q.1 k with
    |true=>rfl
    |false=>exact ih
  rw[wbg,app,wsk nm x j,List.range_succ,List.any_append];simp only[List.any_cons,List.any_nil,Bool.or_false,keq]
  cases (List.range j).any (λi=>decide (nm i=x))<;>cases decide (nm j=x)<;>rfl
theorem wjx(nm:Nat->List UInt8)(k:Nat):∀j,who nm j k= !(List.range j).any (λi=>decide (nm i=nm k))
 |0=>rfl
 |j+1=>by
  rw[who,wjx nm k j,List.range_succ,List.any_append];simp only[List.any_cons,List.any_nil,Bool.or_false,Bool.not_or];congr 2;simp only[eq_comm]
theorem w0i(nm:Nat->List UInt8)(x:List UInt8)(v:AV):∀j,(List.range j).any (λi=>decide (nm i=x))=false->mset (wbg nm j) (.str x) v=wbg nm j++[(.str x,v)]:=by
 have app:∀(l:List (AV×AV)) (k v:AV),(∀p∈l,keq p.1 k=false)->mset l k v=l++[(k,v)]:=by
  intro l k v h
  induction l with
  |nil=>rfl
  |cons q l ih=>
   simp only[List.cons_append,mset];rw[h q (List.mem_cons_self ..),ih (λp hp=>h p (List.mem_cons_of_mem _ hp))]
 intro j hj;apply app
 induction j with
 |zero=>intro p hp;cases hp
 |succ j ih=>
  rw[List.range_succ,List.any_append,Bool.or_eq_false_iff] at hj;intro p hp;rw[wbg,List.mem_append] at hp
  rcases hp with hp | hp
  ·exact ih hj.1 p hp
  ·obtain rfl:=List.mem_singleton.1 hp;simpa[keq] using hj.2
theorem wrb(nm vl:Nat->List UInt8):∀k,wdh nm vl k=true->wh7 .string (wbg nm k)
 |0,_=>⟨rfl,List.nodup_nil⟩
 |k+1,h=>by
  rw[wdh,bA7] at h;obtain⟨h1,h2⟩:=wrb nm vl k h.1;have hf:who nm k k=true:=by
   have:=h.2;unfold atOK at this;rw[bA7] at this;exact this.2
  rw[wjx,Bool.not_eq_true'] at hf;have hmem:∀j,(List.range j).any (λi=>decide (nm i=nm k))=false->AV.str (nm k) ∉ (wbg nm j).map Prod.fst:=by
   intro j
   induction j with
   |zero=>intro _ hm;cases hm
   |succ j ih=>
    intro hj hm;rw[List.range_succ,List.any_append,Bool.or_eq_false_iff] at hj;rw[wbg,List.map_append,List.mem_append] at hm
    rcases hm with hm | hm
    ·exact ih hj.1 hm
    ·have:=List.mem_singleton.1 hm;injection this with this;have hj2:=hj.2;simp[this.symm] at hj2
  refine⟨?_,?_⟩
  ·rw[wbg,List.all_append,h1];rfl
  ·rw[wbg,List.map_append,List.nodup_append];refine⟨h2,by simp,?_⟩;intro a ha b hb hab;obtain rfl:=List.mem_singleton.1 hb;subst hab;exact hmem k hf ha
theorem wra(σ:Nat->Option Nat)(nm:Nat->List UInt8):∀k,(wbg nm k).map (λp=>(p.1.rn σ,p.2.rn σ))=wbg nm k
 |0=>rfl
 |k+1=>by rw[wbg,List.map_append,wra σ nm k];rfl
def S_valV:Spec
 |[.agg [.str id,.str code,.str brand,.int .i64 d,.int .i64 c,.int .i64 a,.view 2 n f]],[]=>some (.q (valF id code brand d c a n (nmOf f) (vlOf f)),[],
   n<=4294967281/\code.length<4294967281/\brand.length<9223372036854775808/\(∀i,i<n->(nmOf f i).length<4294967281/\(vlOf f i).length<4294967281)/\f=wem (nmOf f) (vlOf f))
 |_,_=>none
def S_vw(n:Nat)(nm vl:Nat->List UInt8)(k:Nat):St:=⟨[(3,.map 0),(33,.view 2 n (wem nm vl)),(34,.q n),(35,.q k)],[(0,.amap (wbg nm k))],1,[]⟩
def L_vw(n:Nat)(nm vl:Nat->List UInt8):waq:=λst Q=>canonIs te 0 [3,33,34,35] st (S_vw n nm vl 0)/\n<=12/\(∀i,i<n->(nm i).length<4294967281/\(vl i).length<4294967281)/\
 wab (wdh nm vl n) (Q (.exit 1) ⟨[],[],0,[]⟩) (Q .ret ⟨[(2,.q 94)],[],0,[]⟩)
structure VT where
 o:List UInt8
 p:List UInt8
 per:Int
 day:Int
 st:Int
 pr:Int
 rep:List UInt8
 deriving Inhabited
structure DT where
 o:List UInt8
 p:List UInt8
 per:Int
 dev:List UInt8
 num:Int
 deriving Inhabited
structure MG where
 dev:List UInt8
 seq:Int
 kind:Int
 v:VT
 d:DT
 deriving Inhabited
def wd3(o p:List UInt8)(per:Int):Bool:=wbe o && wbm p && decide (0<=per) && decide (per<=5999)
def visF(v:VT):Bool:=wd3 v.o v.p v.per && decide (0<=v.day) && decide (v.day<=182620) &&
 (bif decide (v.st=1) || decide (v.st=2) then decide (1<=v.pr) && decide (v.pr<=1099511627776) && decide (v.rep=[])
 else bif decide (v.st=3) || decide (v.st=4) then decide (v.pr=0) && decide (v.rep=[])
 else bif decide (v.st=5) then decide (1<=v.pr) && decide (v.pr<=1099511627776) && wbm v.rep && !decide (v.rep=v.p) else false)
def VT.nil(v:VT):Bool:=decide (v.o=[]) && (decide (v.p=[]) && (decide (v.per=0) && (decide (v.day=0) && (decide (v.st=0) && (decide (v.pr=0) && decide (v.rep=[]))))))
def DT.nil(d:DT):Bool:=decide (d.o=[]) && (decide (d.p=[]) && (decide (d.per=0) && (decide (d.dev=[]) && decide (d.num=0))))
def numF(n:Int):Bool:=decide (1<=n) && decide (n<=1048576)
def msgF(m:MG):Int:=bif !wbe m.dev then 110 else bif !numF m.seq then 111 else bif !decide (m.kind=1) && !decide (m.kind=2) then 112
 else bif (decide (m.kind=1) && !visF m.v) || (decide (m.kind=2) && !m.v.nil) then 113
 else bif (decide (m.kind=1) && !m.d.nil) || (decide (m.kind=2) && !(wd3 m.d.o m.d.p m.d.per && wbe m.d.dev && numF m.d.num)) then 114 else 0
def wkw:Spec
 |[.agg [.str id,.str code,.str brand,.int .i64 d,.int .i64 c,.int .i64 a,.nil]],[]=>some (.q (valF id code brand d c a 0 (λ_=>[]) (λ_=>[])),[],code.length<4294967281/\brand.length<9223372036854775808)
 |_,_=>none
def wmn:Spec
 |[.int .i64 d],[]=>some (.bool (decide (0<=d) && decide (d<=182620)),[],True)
 |_,_=>none
def wgt:Spec
 |[.str s],[]=>some (.bool (wbe s),[],s.length<9223372036854775808)
 |_,_=>none
def wgf:Spec
 |[.str o,.str p,.int .i64 per],[]=>some (.bool (wd3 o p per),[],o.length<9223372036854775808)
 |_,_=>none
def wlk:Spec
 |[.int .i64 n],[]=>some (.bool (numF n),[],True)
 |_,_=>none
def wkt:Spec
 |[.int .i64 d],[]=>some (.q (bif decide (0<=d) && decide (d<=182620) then d % 7 else -1),[],True)
 |_,_=>none
def wku:Spec
 |[.agg [.str o,.str p,.int .i64 per,.int .i64 day,.int .i64 st,.int .i64 pr,.str rep]],[]=>some (.bool (visF ⟨o,p,per,day,st,pr,rep⟩),[],o.length<9223372036854775808)
 |_,_=>none
def wgn:Spec
 |[.agg [.str dev,.int .i64 seq,.int .i64 kind,.str o,.str p,.int .i64 per,.int .i64 day,.int .i64 st,.int .i64 pr,.str rep,.str o',.str p',.int .i64 per',.str dev',.int .i64 num]],[]=>
   some (.q (msgF ⟨dev,seq,kind,⟨o,p,per,day,st,pr,rep⟩,⟨o',p',per',dev',num⟩⟩),[],dev.length<9223372036854775808/\o.length<9223372036854775808/\o'.length<9223372036854775808/\dev'.length<9223372036854775808)
 |_,_=>none
def ws6(cs:List AV)(j:Nat):Bool:=match cs[j]? with
 |some .nil=>true
 |_=>false
def ownNilC(r j t sz:Nat)(s:St):St:=match lk s.O r with
 |some (.cells cs ct)=>match ws6 cs j with
  |true=>⟨s.T,(s.nx,.row t sz 0 (λ_=>[]) false)::(r,.cells (cs.set j (.own s.nx 0)) ct)::rm r s.O,s.nx+1,[]⟩
  |false=>s
 |_=>s
theorem RepS.ownNilC{C:Ctx}{E:Ent}{N:Nat}{s:St}{bs:Nat->Option Hd}{a:Act}{w:World}(r0 j0 t sz:Nat)(h:RepS C E N s bs a w):∃bs',RepS C E N (ownNilC r0 j0 t sz s) bs' a w:=by
 unfold Eng.ownNilC;split
 ·rename_i cs ct hd;split
  ·rename_i hnil;have hnil:cs[j0]?=some .nil:=by
    unfold ws6 at hnil;split at hnil
    ·assumption
    ·cases hnil
   obtain⟨T,O,nx,dec⟩:=s;obtain⟨⟨hF,hW⟩,hnx,hm⟩:=h;have hn:=hnx nx (lR7 _);have hb0:bs nx=none:=hn.2;have hO0:lk O nx=none:=hn.1;have hd:lk O r0=some (.cells cs ct):=hd;have hne0:r0≠nx:=λe=>by subst e;rw[hO0] at hd;cases hd
   let bs':=up bs nx .nil
   let O':List (Nat×AObj):=(nx,AObj.row t sz 0 (λ_=>[]) false)::(r0,.cells (cs.set j0 (.own nx 0)) ct)::rm r0 O
   have hbs:∀r x,bs r=some x->bs' r=some x:=λr x hx=>by
    have:nx≠r:=λe=>by subst e;rw[hb0] at hx;cases hx
    show up bs nx .nil r=some x;rw[wan _ _ _ this];exact hx
   have hbk:∀r b c,bs' r=some (.blk b c)->bs r=some (.blk b c):=λr b c hx=>by
    by_cases hr:nx=r
    ·subst hr;have:up bs nx .nil nx=some (.blk b c):=hx;rw[wao] at this;cases this
    ·have:up bs nx .nil r=some (.blk b c):=hx
     rwa [wan _ _ _ hr] at this
   have hlk:∀r o,lk O' r=some o->(r=nx/\o= .row t sz 0 (λ_=>[]) false)∨(r≠nx/\r=r0/\o= .cells (cs.set j0 (.own nx 0)) ct)∨(r≠nx/\lk O r=some o):=λr o ho=>by
    have ho:lk ((nx,AObj.row t sz 0 (λ_=>[]) false)::(r0,.cells (cs.set j0 (.own nx 0)) ct)::rm r0 O) r=some o:=ho;rw[wat] at ho;split at ho
    ·rename_i e;have e':nx=r:=e;simp only[sI7] at ho;exact .inl ⟨e'.symm,ho.symm⟩
    ·rename_i e;rw[wfz,wat] at ho;split at ho
     ·rename_i e2;have e2':r0=r:=e2;simp only[sI7] at ho;exact .inr (.inl ⟨λe'=>e e'.symm,e2'.symm,ho.symm⟩)
     ·exact .inr (.inr ⟨λe'=>e e'.symm,ho⟩)
   have hold:∀r o,lk O' r=some o->r≠nx->∃o',lk O r=some o'/\o'.mut=o.mut:=λr o ho hr=>by
    rcases hlk r o ho with⟨h1,_⟩ | ⟨_,rfl,rfl⟩ | ⟨_,h2⟩
    ·exact absurd h1 hr
    ·exact⟨_,hd,rfl⟩
    ·exact⟨_,h2,rfl⟩
   have hmb:∀b,mutB (lk O') bs' b->mutB (lk O) bs b:=by
    rintro b ⟨r,o,c,ho,hmu,hb⟩;have hr:r≠nx:=λe=>by
     subst e;have:=hbk _ _ _ hb;rw[hb0] at this;cases this
    obtain⟨o',h1,h2⟩:=hold r o ho hr;exact⟨r,o',c,h1,h2.trans hmu,hbk _ _ _ hb⟩
   have hMB:∀b,MB E (lk O') bs' b->MB E (lk O) bs b:=λb hb=>hb.imp id (hmb b);have vm:∀ {v:Value} {u:AV},V w (MB E (lk O) bs) bs v u->V w (MB E (lk O') bs') bs' v u:=λh=>
    h.step_ (λb _ hb hb'=>hb (hMB b hb')) (λ_ _ _=>rfl) (lR7 _) _ hbs
   have hS:Step w (MB E (lk O) bs) bs w (MB E (lk O') bs') bs':=⟨hbs,λb _ hb hb'=>hb (hMB b hb'),λ_ _ _=>rfl,lR7 _⟩;refine⟨bs',⟨⟨hF.1,hF.2.1,λi u hu=>?_⟩,?_⟩,λr hr=>?_,Nat.le_succ_of_le hm⟩
   ·obtain⟨v,hv,hV⟩:=hF.2.2 i u hu;exact⟨v,hv,vm hV⟩
   ·exact {
     obj:=λr o ho=>by
      rcases hlk r o ho with⟨rfl,rfl⟩ | ⟨hne,rfl,rfl⟩ | ⟨hne,ho⟩
      ·exact .inl ⟨wao _ _ _,rfl⟩
      ·obtain⟨b,c,vs,q1,q2,q3,q4,q5⟩:=hW.obj r _ hd;refine⟨b,c,vs,hbs _ _ q1,q2,by rw[List.length_set];exact q3,q4,λj v u hv hu=>?_⟩
       by_cases hj:j0=j
       ·subst hj;have hlt:j0<cs.length:=by
         rcases Nat.lt_or_ge j0 cs.length with h | h
         ·exact h
         ·rw[List.getElem?_eq_none h] at hnil;cases hnil
        rw[List.getElem?_set_self hlt] at hu;obtain rfl:=oJ7 hu;have hV:=q5 j0 v _ hv hnil
        cases hV;exact .ownnil (wao _ _ _) rfl
       ·rw[List.getElem?_set_ne hj] at hu;exact vm (q5 j v u hv hu)
      ·exact(hW.obj r o ho).step hS λ_ _ _=>rfl
     sep:=λr r' o1 o2 b c c' h1 h2 m1 m2 b1 b2=>by
      have hr:r≠nx:=λe=>by
       subst e;have:=hbk _ _ _ b1;rw[hb0] at this;cases this
      have hr':r'≠nx:=λe=>by
       subst e;have:=hbk _ _ _ b2;rw[hb0] at this;cases this
      obtain⟨o1',p1,p2⟩:=hold r o1 h1 hr;obtain⟨o2',p3,p4⟩:=hold r' o2 h2 hr';exact hW.sep r r' o1' o2' b c c' p1 p3 (p2.trans m1) (p4.trans m2) (hbk _ _ _ b1) (hbk _ _ _ b2)
     out:=λb hb=>hW.out b (hmb b hb)
     frz:=λr t' sz' n f b c ho hb hM=>by
      rcases hlk r _ ho with⟨rfl,h⟩ | ⟨hne,rfl,h⟩ | ⟨hne,ho⟩
      ·cases h
      ·cases h
      ·exact hW.frz r t' sz' n f b c ho (hbk _ _ _ hb) (hMB b hM)
     high:=λb hb=>hW.high b (hMB b hb)
     lt:=λr b c hb=>hW.lt r b c (hbk _ _ _ hb)
     outlt:=hW.outlt
     keep:=hW.keep
     old:=λb hb=>hW.old b (hmb b hb)
     size:=hW.size
     pre:=λr x hr hb=>hbs r x (hW.pre r x hr hb)
     os:=hW.os
     tape:=hW.tape
     output:=hW.output
     laid:=hW.laid
     gle:=hW.gle }
   ·have hr':nx+1<=r:=hr;obtain⟨q1,q2⟩:=hnx r (show nx<=r by omega);refine⟨?_,?_⟩
    ·show lk O' r=none
     cases ho:lk O' r with
     |none=>rfl
     |some o=>
      obtain⟨o',p1,_⟩:=hold r o ho (by omega);rw[q1] at p1;cases p1
    ·show up bs nx .nil r=none;rw[wan _ _ _ (by omega)];exact q2
  ·exact⟨bs,h⟩
 ·exact⟨bs,h⟩
theorem AWP.ownNilC{C:Ctx}{m N:Nat}{c:Code}{Q:Exit->St->Prop}{s:St}(r j t sz:Nat)(h:AWP C m N c Q (Eng.ownNilC r j t sz s)):AWP C m N c Q s:=by
 intro E hE bs a w hr;obtain⟨bs',hr'⟩:=hr.ownNilC r j t sz;exact h E hE bs' a w hr'
theorem wa0:∀O:List (Nat×AObj),wad O O
 |[]=>trivial
 |(r,o)::l=>by
  have ih:=wa0 l
  cases o
  case row=>exact⟨⟨rfl,rfl,rfl,rfl,rfl,λ_ _=>rfl⟩,ih⟩
  all_goals exact⟨rfl,ih⟩
def ownNilP(d j t sz:Nat)(s:St):St:=match lk s.T d with
 |some (.ptr r i)=>Eng.ownNilC r (i+j) t sz s
 |_=>s
theorem AWP.ownNilP{C:Ctx}{m N:Nat}{c:Code}{Q:Exit->St->Prop}{s:St}(d j t sz:Nat)(h:AWP C m N c Q (Eng.ownNilP d j t sz s)):AWP C m N c Q s:=by
 unfold Eng.ownNilP at h;split at h
 ·exact AWP.ownNilC _ _ t sz h
 ·exact h
theorem wca{α:Type}(d:Nat):∀(l:List (Nat×α)) (i:Nat) (u:α),lk (rm d l) i=some u->d≠i/\lk l i=some u
 |[],i,u,h=>by cases h
 |(j,x)::l,i,u,h=>by
  simp only[rm] at h;split at h
  ·rename_i e;have e:=Nat.eq_of_beq_eq_true e;obtain⟨h1,h2⟩:=wca d l i u h;refine⟨h1,?_⟩;rw[wat];have:¬ j=i:=λq=>h1 (e.symm.trans q);simp only[this,if_false];exact h2
  ·rename_i e;rw[wat] at h ⊢;have hjd:¬ j=d:=λq=>by subst q;rw[Nat.beq_refl] at e;cases e
   by_cases q:j=i
   ·simp only[q,if_true] at h ⊢;exact⟨λq'=>hjd (q.trans q'.symm),h⟩
   ·simp only[q,if_false] at h ⊢;exact wca d l i u h
def frzA(r sz n:Nat)(f:Nat->List AV):AV->AV
 |.agg cs=>.agg (cs.map (frz r sz n f))
 |u=>frz r sz n f u
def frzC(r sz n:Nat)(f:Nat->List AV):AV->AV
 |.tuple cs=>.tuple (cs.map (frzA r sz n f))
 |u=>frzA r sz n f u
section
variable {C:Ctx} {E:Ent} {O:Nat->Option AObj} {bs:Nat->Option Hd} {w:World} {r:Nat} {t:TypeId} {sz n:Nat} {f:Nat->List AV}
theorem V.frz(hW:WRep C E O bs w)(hr0:O r=some (.row t sz n f true))(hf:∀i,i<n->nrefL (f i)=true):∀ {v u},V w (MB E O bs) bs v u->V w (MB E O bs) bs v (Eng.frz r sz n f u):=by
 have hrow:=hW.obj r _ hr0;intro v u hV
 cases u with
 |own r' n'=>
  simp only[Eng.frz];split
  ·rename_i hc;simp only[bA7] at hc;have hr:=Nat.eq_of_beq_eq_true hc.1;have hn':n'<=n:=Nat.le_of_ble_eq_true hc.2;subst hr
   cases hV with
   |own hb hn hcm=>
    rename_i b c
    rcases hrow with⟨h1,_⟩ | ⟨b',c',vs,h1,h2,h3,h4,h5,h6,h7,h8⟩
    ·rw[h1] at hb;cases hb
    ·rw[h1] at hb;injection hb with hb;injection hb with e1 e2;subst e1;subst e2;have hlt:b'<w.heap.size:=(Array.getElem?_eq_some_iff.1 h2).1;have inb:∀i,i<n'->∀j,j<sz->i * sz+j<vs.size:=by
      intro i hi j hj;rw[h5];have:(i+1) * sz<=c' * sz:=Nat.mul_le_mul_right sz (by omega);rw[Nat.add_mul,Nat.one_mul] at this;omega
     refine .view ⟨b',0,none⟩ (λi j=>vs.getD (i * sz+j) undef) hn hcm (λ_=>⟨rfl,hW.frz _ t sz n f _ _ hr0 h1,hlt⟩) (λi hi=>h6 i (by omega)) (λi hi j hj=>?_) (λi hi j hj=>?_) λi hi j u hu=>?_
     ·have:=inb i hi j hj;rw[Addr.add_lit,Nat.zero_add,cell_of_row w b' (i * sz+j) vs t (0,0) h2];simp[this]
     ·have:=inb i hi j hj;exact h7 i (by omega) j hj _ (by simp[this])
     ·have hj:j<sz:=by rw[← h6 i (by omega)];exact(List.getElem?_eq_some_iff.1 hu).1
      have:=inb i hi j hj;exact(h8 i (by omega) j _ u hj (by simp[this]) hu).free (λ_ _ h=>h) (λ_ _ _=>rfl) (lR7 _) nob (wfv (hf i (by omega)) j u hu)
   |ownnil hb hn=>
    subst hn;exact .view ⟨0,0,none⟩ (λ_ _=>undef) (lR7 _) (zL7 _) (λh=>by omega) (λi hi=>by omega) (λi hi=>by omega) (λi hi=>by omega) (λi hi=>by omega)
  ·exact hV
 |_=>exact hV
theorem V.frzA(hW:WRep C E O bs w)(hr0:O r=some (.row t sz n f true))(hf:∀i,i<n->nrefL (f i)=true){v:Value}{u:AV}(h:V w (MB E O bs) bs v u):V w (MB E O bs) bs v (Eng.frzA r sz n f u):=by
 cases u with
 |agg cs=>
  cases h with
  |agg hl h1 hv=>
   refine .agg (by rw[List.length_map];exact hl) h1 λj v u hj hu=>?_;rw[List.getElem?_map] at hu;obtain⟨u0,hu0,rfl⟩:=Option.map_eq_some_iff.1 hu;exact V.frz hW hr0 hf (hv j v u0 hj hu0)
 |_=>exact V.frz hW hr0 hf h
theorem V.frzC(hW:WRep C E O bs w)(hr0:O r=some (.row t sz n f true))(hf:∀i,i<n->nrefL (f i)=true){v:Value}{u:AV}(h:V w (MB E O bs) bs v u):V w (MB E O bs) bs v (Eng.frzC r sz n f u):=by
 cases u with
 |tuple cs=>
  cases h with
  |tuple hl hv=>
   refine .tuple (by rw[List.length_map];exact hl) λj v u hj hu=>?_;rw[List.getElem?_map] at hu;obtain⟨u0,hu0,rfl⟩:=Option.map_eq_some_iff.1 hu;exact V.frzA hW hr0 hf (hv j v u0 hj hu0)
 |_=>exact V.frzA hW hr0 hf h
theorem WRep.less{O':Nat->Option AObj}(hW:WRep C E O bs w)(hO:∀k o,O' k=some o->O k=some o):Step w (MB E O bs) bs w (MB E O' bs) bs/\WRep C E O' bs w:=by
 have hmb:∀b,mutB O' bs b->mutB O bs b:=λb ⟨r,o,c,h1,h2,h3⟩=>⟨r,o,c,hO r o h1,h2,h3⟩;have hMB:∀b,MB E O' bs b->MB E O bs b:=λb hb=>hb.imp id (hmb b);have hS:Step w (MB E O bs) bs w (MB E O' bs) bs:=⟨λ_ _ h=>h,λb _ hb hb'=>hb (hMB b hb'),λ_ _ _=>rfl,lR7 _⟩
 exact⟨hS,{
  obj:=λr o ho=>(hW.obj r o (hO r o ho)).step hS λ_ _ _=>rfl
  sep:=λr r' o1 o2 b c c' h1 h2 m1 m2 b1 b2=>hW.sep r r' o1 o2 b c c' (hO _ _ h1) (hO _ _ h2) m1 m2 b1 b2
  out:=λb hb=>hW.out b (hmb b hb)
  frz:=λr t' sz' n f b c ho hb hM=>hW.frz r t' sz' n f b c (hO _ _ ho) hb (hMB b hM)
  high:=λb hb=>hW.high b (hMB b hb)
  lt:=hW.lt
  outlt:=hW.outlt
  keep:=hW.keep
  old:=λb hb=>hW.old b (hmb b hb)
  size:=hW.size
  pre:=hW.pre
  os:=hW.os
  tape:=hW.tape
  output:=hW.output
  laid:=hW.laid
  gle:=hW.gle }⟩
end
def nilv(sz:Nat)(f:Nat->List AV):AV->AV
 |.nil=>.view sz 0 f
 |u=>u
def nilvA(sz:Nat)(f:Nat->List AV):AV->AV
 |.agg cs=>.agg (cs.map (nilv sz f))
 |u=>nilv sz f u
section
variable {w:World} {M:Nat->Prop} {bs:Nat->Option Hd} {sz:Nat} {f:Nat->List AV}
theorem V.nilv{v:Value}{u:AV}(h:V w M bs v u):V w M bs v (Eng.nilv sz f u):=by
 cases u with
 |nil=>cases h;exact .view ⟨0,0,none⟩ (λ_ _=>undef) (lR7 _) (zL7 _) (λh=>by omega) (λi hi=>by omega) (λi hi=>by omega) (λi hi=>by omega) (λi hi=>by omega)
 |_=>exact h
theorem V.nilvA{v:Value}{u:AV}(h:V w M bs v u):V w M bs v (Eng.nilvA sz f u):=by
 cases u with
 |agg cs=>
  cases h with
  |agg hl h1 hv=>
   refine .agg (by rw[List.length_map];exact hl) h1 λj v u hj hu=>?_;rw[List.getElem?_map] at hu;obtain⟨u0,hu0,rfl⟩:=Option.map_eq_some_iff.1 hu;exact V.nilv (hv j v u0 hj hu0)
 |_=>exact V.nilv (sz:=sz) (f:=f) h
end
theorem lkL_set{objs:List AObj}{r:Nat}{x:AObj}(h:r<objs.length):lkL (objs.set r x)=up (lkL objs) r x:=by
 funext k;unfold lkL
 by_cases e:r=k
 ·subst e;rw[wao,List.getElem?_set_self h]
 ·rw[wan _ _ _ e,List.getElem?_set_ne e]
theorem war.nilArg{C:Ctx}{g:FuncId}{args:List AV}{objs:List AObj}{R:AV->List (Nat×AObj)->Prop}(sz:Nat)(f:Nat->List AV)(h:war C g (args.map (nilvA sz f)) objs R):war C g args objs R:=by
 refine⟨h.1,λE bs w cargs h1 h2 h3 h4 h5 h6 h7=>?_⟩;refine h.2 E bs w cargs h1 h2 h3 h4 h5 (by rw[List.length_map];exact h6) λj v u hv hu=>?_;rw[List.getElem?_map] at hu;obtain⟨u0,hu0,rfl⟩:=Option.map_eq_some_iff.1 hu;exact V.nilvA (h7 j v u0 hv hu0)
def frzT(r sz n:Nat)(g:Nat->List AV):List (Nat×AV)->List (Nat×AV)
 |[]=>[]
 |p::l=>(p.1,frzC r sz n g p.2)::frzT r sz n g l
def wjw(r:Nat)(s:St):St:=match lk s.O r with
 |some (.row _ sz n g _)=>⟨frzT r sz n g s.T,rm r s.O,s.nx,s.dec⟩
 |_=>s
def wf5(r:Nat)(s:St):Prop:=match lk s.O r with
 |some (.row _ _ n g _)=>∀i,i<n->nrefL (g i)=true
 |_=>True
theorem wo2{r sz n:Nat}{g:Nat->List AV}:∀ {T:List (Nat×AV)} {i:Nat} {u:AV},lk (frzT r sz n g T) i=some u->∃u0,lk T i=some u0/\u=frzC r sz n g u0
 |[],i,u,h=>by cases h
 |p::T,i,u,h=>by
  rw[frzT,wat] at h;rw[wat]
  by_cases e:p.1=i
  ·rw[if_pos e] at h ⊢;exact⟨_,rfl,(oJ7 h).symm⟩
  ·rw[if_neg e] at h ⊢;exact wo2 h
theorem RepS.frz{C:Ctx}{E:Ent}{N:Nat}{s:St}{bs:Nat->Option Hd}{a:Act}{w:World}(h:RepS C E N s bs a w)(r:Nat)(hf:wf5 r s):RepS C E N (wjw r s) bs a w:=by
 unfold wjw;unfold wf5 at hf;split
 ·rename_i t sz n g fr hO;rw[hO] at hf;obtain⟨⟨hF,hW⟩,hnx,hm⟩:=h;obtain⟨hS,hW1⟩:=hW.freeze hO;have hF1:=hF.step hS;obtain⟨hS2,hW2⟩:=hW1.less (O':=lk (rm r s.O)) λk o hk=>by
   obtain⟨q1,q2⟩:=wca r s.O k o hk;rw[wan _ _ _ q1];exact q2
  refine⟨⟨⟨hF.1,hF.2.1,λi u hu=>?_⟩,hW2⟩,λk hk=>⟨?_,(hnx k hk).2⟩,hm⟩
  ·obtain⟨u0,h0,rfl⟩:=wo2 hu;obtain⟨v,hv,hV⟩:=hF1.2.2 i u0 h0;exact⟨v,hv,(V.frzC hW1 (wao _ _ _) hf hV).step hS2⟩
  ·show lk (rm r s.O) k=none
   cases hx:lk (rm r s.O) k with
   |none=>rfl
   |some o=>
    have:=(wca r s.O k o hx).2;rw[(hnx k hk).1] at this;cases this
 ·exact h
theorem AWP.frzQ{C:Ctx}{m N:Nat}{c:Code}{Q:Exit->St->Prop}{s:St}(r:Nat)(h:AWP C m N c (λe s'=>wf5 r s'/\Q e (wjw r s')) s):AWP C m N c Q s:=by
 intro E hE bs a w hr;refine wp_mono (h E hE bs a w hr) ?_;rintro e a w ⟨s',bs',⟨hf,hq⟩,hr'⟩;exact⟨_,bs',hq,hr'.frz r hf⟩
def frzO(r:Nat)(R:AV->List (Nat×AObj)->Prop)(u:AV)(O:List (Nat×AObj)):Prop:=match lk O r with
 |some (.row _ sz n g _)=>(∀i,i<n->nrefL (g i)=true)/\R (frzC r sz n g u) (rm r O)
 |_=>R u O
theorem war.frzO{C:Ctx}{f:FuncId}{args:List AV}{objs:List AObj}{R:AV->List (Nat×AObj)->Prop}(r:Nat)(h:war C f args objs (Eng.frzO r R)):war C f args objs R:=by
 refine⟨h.1,λE bs w cargs h1 h2 h3 h4 h5 h6 h7=>?_⟩;refine(h.2 E bs w cargs h1 h2 h3 h4 h5 h6 h7).mono ?_;rintro e w' ⟨v,u,O',bs',r1,hR0,r3,r4,r5⟩;unfold Eng.frzO at hR0;split at hR0
 ·rename_i t sz n g fr hO;obtain⟨hg,hR⟩:=hR0;obtain⟨hS,hW1⟩:=r3.freeze hO;have hV:=V.frzC hW1 (wao _ _ _) hg (r4.step hS);obtain⟨hS2,hW2⟩:=hW1.less (O':=lk (rm r O')) λk o hk=>by
   obtain⟨q1,q2⟩:=wca r O' k o hk;rw[wan _ _ _ q1];exact q2
  refine⟨v,_,rm r O',bs',r1,hR,hW2,hV.step hS2,λk hk=>⟨?_,(r5 k hk).2⟩⟩
  cases hx:lk (rm r O') k with
  |none=>rfl
  |some o=>
   have:=(wca r O' k o hx).2;rw[(r5 k hk).1] at this;cases this
 ·exact⟨v,u,O',bs',r1,hR0,r3,r4,r5⟩
theorem WRep.rowEq{C:Ctx}{E:Ent}{O:Nat->Option AObj}{bs:Nat->Option Hd}{w:World}(hW:WRep C E O bs w){r0:Nat}{t sz n:Nat}{f f':Nat->List AV}{fr:Bool}(hd:O r0=some (.row t sz n f fr))(hf:∀i,i<n->f' i=f i):
  MB E (up O r0 (.row t sz n f' fr)) bs=MB E O bs/\WRep C E (up O r0 (.row t sz n f' fr)) bs w:=by
 have hlk:∀r o,up O r0 (.row t sz n f' fr) r=some o->(r=r0/\o= .row t sz n f' fr)∨(r≠r0/\O r=some o):=λr o ho=>by
  by_cases e:r0=r
  ·subst e;rw[wao] at ho;exact .inl ⟨rfl,(oJ7 ho).symm⟩
  ·rw[wan _ _ _ e] at ho;exact .inr ⟨λe'=>e e'.symm,ho⟩
 have hback:∀r o,O r=some o->∃o',up O r0 (.row t sz n f' fr) r=some o'/\o'.mut=o.mut:=λr o ho=>by
  by_cases e:r0=r
  ·subst e;rw[hd] at ho;obtain rfl:=oJ7 ho;exact⟨_,wao _ _ _,rfl⟩
  ·exact⟨o,by rw[wan _ _ _ e];exact ho,rfl⟩
 have hold:∀r o,up O r0 (.row t sz n f' fr) r=some o->∃o',O r=some o'/\o'.mut=o.mut:=λr o ho=>by
  rcases hlk r o ho with⟨rfl,rfl⟩ | ⟨_,h2⟩
  ·exact⟨_,hd,rfl⟩
  ·exact⟨_,h2,rfl⟩
 have hMB:MB E (up O r0 (.row t sz n f' fr)) bs=MB E O bs:=by
  funext b;apply propext
  constructor
  ·rintro(h | ⟨r,o,c,h1,h2,h3⟩)
   ·exact .inl h
   ·obtain⟨o',q1,q2⟩:=hold r o h1;exact .inr ⟨r,o',c,q1,q2.trans h2,h3⟩
  ·rintro(h | ⟨r,o,c,h1,h2,h3⟩)
   ·exact .inl h
   ·obtain⟨o',q1,q2⟩:=hback r o h1;exact .inr ⟨r,o',c,q1,q2.trans h2,h3⟩
 have hmb:∀b,mutB (up O r0 (.row t sz n f' fr)) bs b->mutB O bs b:=λb ⟨r,o,c,h1,h2,h3⟩=>by
  obtain⟨o',q1,q2⟩:=hold r o h1;exact⟨r,o',c,q1,q2.trans h2,h3⟩
 refine⟨hMB,?_⟩
 exact {
  obj:=λr o ho=>by
   rw[hMB]
   rcases hlk r o ho with⟨rfl,rfl⟩ | ⟨hne,ho⟩
   ·rcases hW.obj r _ hd with h | ⟨b,c,vs,h1,h2,h3,h4,h5,h6,h7,h8⟩
    ·exact .inl h
    ·exact .inr ⟨b,c,vs,h1,h2,h3,h4,h5,λi hi=>by rw[hf i hi];exact h6 i hi,h7,λi hi j v u hj hv hu=>h8 i hi j v u hj hv (by rw[← hf i hi];exact hu)⟩
   ·exact hW.obj r o ho
  sep:=λr r' o1 o2 b c c' h1 h2 m1 m2 b1 b2=>by
   obtain⟨o1',p1,p2⟩:=hold r o1 h1;obtain⟨o2',p3,p4⟩:=hold r' o2 h2;exact hW.sep r r' o1' o2' b c c' p1 p3 (p2.trans m1) (p4.trans m2) b1 b2
  out:=λb hb=>hW.out b (hmb b hb)
  frz:=λr t' sz' n' f2 b c ho hb=>by
   rw[hMB]
   rcases hlk r _ ho with⟨rfl,h⟩ | ⟨hne,ho⟩
   ·injection h with e1 e2 e3 e4 e5;subst e5;exact hW.frz r _ _ _ _ b c hd hb
   ·exact hW.frz r t' sz' n' f2 b c ho hb
  high:=λb hb=>hW.high b (by rw[← hMB];exact hb)
  lt:=hW.lt
  outlt:=hW.outlt
  keep:=hW.keep
  old:=λb hb=>hW.old b (hmb b hb)
  size:=hW.size
  pre:=hW.pre
  os:=hW.os
  tape:=hW.tape
  output:=hW.output
  laid:=hW.laid
  gle:=hW.gle }
theorem war.rowEq{C:Ctx}{g:FuncId}{args:List AV}{objs:List AObj}{R:AV->List (Nat×AObj)->Prop}(r:Nat){t sz n:Nat}{f f':Nat->List AV}{fr:Bool}(hr:objs[r]?=some (.row t sz n f fr))(hf:∀i,i<n->f' i=f i)
  (h:war C g args (objs.set r (.row t sz n f' fr)) R):war C g args objs R:=by
 have hlt:r<objs.length:=(List.getElem?_eq_some_iff.1 hr).1;refine⟨h.1,λE bs w cargs h1 h2 h3 h4 h5 h6 h7=>?_⟩;obtain⟨q1,q2⟩:=h4.rowEq (show lkL objs r=some (.row t sz n f fr) from hr) hf;rw[← lkL_set hlt] at q1 q2;have:=h.2 E bs w cargs h1 (by rw[List.length_set];exact h2) h3 q2 (by rw[List.length_set];exact h5) h6 (by rw[q1];exact h7);rw[List.length_set] at this;exact this
theorem ADet.give{C:Ctx}{g:FuncId}{args args':List AV}{U:AV}{t sz n:Nat}{f:Nat->List AV}{fr:Bool}(h:ADet C g args' [] U [])(ha:args.map (frzC 0 sz n f)=args')(hn:nrefL args'=true)(hU:nref U=true)(hf:∀i,i<n->nrefL (f i)=true):
  ADet C g args [.row t sz n f fr] U []:=by
 refine⟨h.1,λE bs w cargs h1 h2 h3 h4 h5 h6 h7=>?_⟩;obtain⟨hS,hW1⟩:=h4.freeze (show lkL [.row t sz n f fr] 0=some (.row t sz n f fr) from rfl);have no:∀r,lkL [] r=none:=λr=>by cases r<;>rfl
 have nm:∀b',¬ mutB (lkL []) nob b':=by
  rintro b' ⟨r,o,c,ho,_⟩;rw[no r] at ho;cases ho
 have hout:∀b,E.outer b->b<w.heap.size:=λb hb=>Nat.lt_of_lt_of_le (h4.outlt b hb) h4.size
 have hw:WRep C ⟨w,0,nob,λ_=>False,E.outer⟩ (lkL []) nob w:={
  obj:=λr o ho=>by rw[no r] at ho;cases ho
  sep:=λr r' o o' b c c' ho=>by rw[no r] at ho;cases ho
  out:=λb hb=>absurd hb (nm b)
  frz:=λr t sz n f b c ho=>by rw[no r] at ho;cases ho
  high:=λb hb=>by
   rcases hb with hb | hb
   ·exact h4.high b (.inl hb)
   ·exact absurd hb (nm b)
  lt:=λr b c hb=>by simp[nob] at hb
  outlt:=hout
  keep:=λb _ _=>rfl
  old:=λb hb=>absurd hb (nm b)
  size:=lR7 _
  pre:=λr x hr=>absurd hr (nZ7 r)
  os:=rfl
  tape:=.refl _ _
  output:=rfl
  laid:=h4.laid
  gle:=Nat.le_trans h4.gle h4.size }
 have hlen:cargs.length=args'.length:=by rw[← ha,List.length_map];exact h6
 refine(h.2 ⟨w,0,nob,λ_=>False,E.outer⟩ nob w cargs rfl rfl rfl hw (λ_ _=>rfl) hlen (λj v u hv hu=>?_)).mono ?_
 ·rw[← ha,List.getElem?_map] at hu;obtain⟨u0,hu0,rfl⟩:=Option.map_eq_some_iff.1 hu;have hV:=V.frzC hW1 (wao _ _ _) hf ((h7 j v u0 hv hu0).step hS);refine hV.free (λb _ hb hb'=>?_) (λ_ _ _=>rfl) (lR7 _) nob (wfv hn j _ (by rw[← ha,List.getElem?_map,hu0];rfl))
  rcases hb' with hb' | hb'
  ·exact hb (.inl hb')
  ·exact nm b hb'
 ·rintro e w' ⟨v,u,O',bs',rfl,⟨rfl,rfl⟩,hw',hV',_⟩;have nl:∀r,lk ([]:List (Nat×AObj)) r=none:=λr=>rfl;have nm':∀(bs:Nat->Option Hd) b',¬ mutB (lk []) bs b':=by
   rintro bs b' ⟨r,o,c,ho,_⟩
   cases ho
  subst h1;refine⟨v,u,[],bs,rfl,⟨rfl,rfl⟩,?_,hV'.free (λb _ hb hb'=>?_) (λ_ _ _=>rfl) (lR7 _) bs hU,λr hr=>⟨rfl,h5 r (by show 1<=r;have:1+16<=r:=hr;omega)⟩⟩
  ·exact {
    obj:=λr o ho=>by cases ho
    sep:=λr r' o o' b c c' ho=>by cases ho
    out:=λb hb=>absurd hb (nm' _ b)
    frz:=λr t sz n f b c ho=>by cases ho
    high:=λb hb=>by
     rcases hb with hb | hb
     ·exact h4.high b (.inl hb)
     ·exact absurd hb (nm' _ b)
    lt:=λr b c hb=>Nat.lt_of_lt_of_le (h4.lt r b c hb) hw'.size
    outlt:=h4.outlt
    keep:=λb hb _=>hw'.keep b hb (λh=>h)
    old:=λb hb=>absurd hb (nm' _ b)
    size:=hw'.size
    pre:=λr x hr hb=>by rw[h3] at hb;exact hb
    os:=hw'.os
    tape:=hw'.tape
    output:=hw'.output
    laid:=hw'.laid
    gle:=h4.gle }
  ·rcases hb' with hb' | hb'
   ·exact hb (.inl hb')
   ·exact nm' _ b hb'
def wgh:Spec
 |[.str a,.str b],[]=>some (.q (cmpS a b),[],True)
 |_,_=>none
def wer:Spec
 |[.int .i64 _],[]=>some (.bool false,[],True)
 |_,_=>none
def wdl:Spec
 |[.int .i64 a,.int .i64 b],[]=>some (.q (cmpI a b),[],True)
 |_,_=>none
def orN(v:Nat->Int):Nat->Int
 |0=>0
 |k+1=>bif decide (orN v k=0) then v k else orN v k
def S_or:Spec
 |[.own 0 n],[.row t 1 m f fr]=>some (.q (orN (vInt f) n),[(0,.row 3 1 n f false)],t=3/\fr=false/\n=m/\n<=100/\∀i,i<n->f i=waf (vInt f) i)
 |_,_=>none
def wlh(v:Nat->Int)(n k:Nat):St:=⟨[(3,.q 0),(6,.own 0 n),(7,.q n),(8,.q k)],[(0,.row 3 1 n (waf v) false)],1,[]⟩
def L_or(v:Nat->Int)(n:Nat):waq:=λst Q=>canonIs te 1 [3,6,7,8] st (wlh v n 0)/\n<=100/\
 wab (decide (orN v n=0)) (Q (.exit 0) ⟨[(3,.q 0)],[(0,.row 3 1 n (waf v) false)],1,[]⟩) (Q .ret ⟨[(2,.q (orN v n))],[(0,.row 3 1 n (waf v) false)],1,[]⟩)
def lst{α:Type}(g:Nat->α)(n:Nat):List α:=(List.range n).map g
end Go.Eng
namespace Go.Eng
open Go.Proofs Go.RowKit
variable {H:Type} {enc:TypeId×Value->H} {W:World}
end Go.Eng
namespace Go.Eng
def ordM(a b:MG):Int:=orL [cmpS a.dev b.dev,cmpI a.seq b.seq,cmpI a.kind b.kind,cmpS a.v.o b.v.o,cmpS a.v.p b.v.p,cmpI a.v.per b.v.per,cmpI a.v.day b.v.day,cmpI a.v.st b.v.st,cmpI a.v.pr b.v.pr,cmpS a.v.rep b.v.rep,
 cmpS a.d.o b.d.o,cmpS a.d.p b.d.p,cmpI a.d.per b.d.per,cmpS a.d.dev b.d.dev,cmpI a.d.num b.d.num]
theorem we2:PreC ordM:=
 (wdc.comap MG.dev).or ((wdd.comap MG.seq).or ((wdd.comap MG.kind).or ((wdc.comap λm:MG=>m.v.o).or ((wdc.comap λm:MG=>m.v.p).or ((wdd.comap λm:MG=>m.v.per).or ((wdd.comap λm:MG=>m.v.day).or
 ((wdd.comap λm:MG=>m.v.st).or ((wdd.comap λm:MG=>m.v.pr).or ((wdc.comap λm:MG=>m.v.rep).or ((wdc.comap λm:MG=>m.d.o).or ((wdc.comap λm:MG=>m.d.p).or ((wdd.comap λm:MG=>m.d.per).or
 ((wdc.comap λm:MG=>m.d.dev).or ((wdd.comap λm:MG=>m.d.num).or .nil))))))))))))))
theorem wof{a b:MG}:ordM a b=0↔a=b:=by
 simp only[ordM,woh,whx,wp4,show orL []=0 from rfl,and_true]
 constructor
 ·rintro⟨h1,h2,h3,h4,h5,h6,h7,h8,h9,h10,h11,h12,h13,h14,h15⟩;obtain⟨a1,a2,a3,⟨b1,b2,b3,b4,b5,b6,b7⟩,c1,c2,c3,c4,c5⟩:=a;obtain⟨a1',a2',a3',⟨b1',b2',b3',b4',b5',b6',b7'⟩,c1',c2',c3',c4',c5'⟩:=b;simp only at h1 h2 h3 h4 h5 h6 h7 h8 h9 h10 h11 h12 h13 h14 h15;subst h1;subst h2;subst h3;subst h4;subst h5;subst h6;subst h7;subst h8;subst h9;subst h10;subst h11;subst h12;subst h13;subst h14;subst h15;rfl
 ·rintro rfl;simp
def insM:List MG->MG->List MG
 |[],m=>[m]
 |x::l,m=>bif decide (ordM m x<0) then m::x::l else bif decide (ordM m x=0) then x::l else x::insM l m
theorem wpg:∀ {l:List MG} {m y:MG},y∈insM l m↔y=m∨y∈l
 |[],m,y=>by simp[insM]
 |x::l,m,y=>by
  rw[insM]
  by_cases h:ordM m x<0
  ·rw[decide_eq_true h];simp
  ·rw[decide_eq_false h]
   by_cases h':ordM m x=0
   ·rw[decide_eq_true h'];have:=wof.1 h';subst this;simp
   ·rw[decide_eq_false h'];simp only[cond_false,List.mem_cons,wpg (l:=l)];grind
theorem wta:∀ {l:List MG} (m:MG),Asc ordM l->Asc ordM (insM l m)
 |[],m,_=>by simp[insM,Asc]
 |x::l,m,h=>by
  obtain⟨h1,h2⟩:=List.pairwise_cons.1 h;rw[insM]
  by_cases q:ordM m x<0
  ·rw[decide_eq_true q];refine List.pairwise_cons.2 ⟨λy hy=>?_,h⟩
   rcases List.mem_cons.1 hy with rfl | hy
   ·exact q
   ·exact we2.lt_trans q (h1 y hy)
  ·rw[decide_eq_false q]
   by_cases q':ordM m x=0
   ·rw[decide_eq_true q'];exact h
   ·rw[decide_eq_false q'];refine List.pairwise_cons.2 ⟨λy hy=>?_,wta m h2⟩
    rcases wpg.1 hy with rfl | hy
    ·have:=we2.neg x y;have:=we2.neg y x;omega
    ·exact h1 y hy
def okM(m:MG):Bool:=decide (msgF m=0)
def mrgF(l:List MG):List MG:=(l.filter okM).foldl insM []
theorem wpp:∀(l acc:List MG),Asc ordM acc->Asc ordM (l.foldl insM acc)/\∀y,y∈l.foldl insM acc↔y∈acc∨y∈l
 |[],acc,h=>⟨h,λy=>by simp⟩
 |x::l,acc,h=>by
  obtain⟨h1,h2⟩:=wpp l (insM acc x) (wta x h);refine⟨h1,λy=>?_⟩;rw[List.foldl_cons,h2,wpg,List.mem_cons];grind
theorem wi6(l:List MG):Asc ordM (mrgF l):=(wpp _ [] .nil).1
theorem wop{l:List MG}{m:MG}:m∈mrgF l↔m∈l/\msgF m=0:=by
 rw[mrgF,(wpp _ [] .nil).2];simp[okM]
theorem wsi{l out:List MG}(h:Asc ordM out)(hm:∀m,m∈out↔m∈l/\msgF m=0):out=mrgF l:=
 Asc.uniq we2 h (wi6 l) λm=>by rw[hm,wop]
theorem ws9:∀(l:List MG) (m:MG),(insM l m).length<=l.length+1
 |[],m=>by simp[insM]
 |x::l,m=>by
  rw[insM]
  cases decide (ordM m x<0) with
  |true=>simp
  |false=>
   cases decide (ordM m x=0) with
   |true=>simp
   |false=>have:=ws9 l m;simpa using this
theorem wtv:∀(l acc:List MG),(l.foldl insM acc).length<=acc.length+l.length
 |[],acc=>by simp
 |x::l,acc=>by
  rw[List.foldl_cons,List.length_cons];have:=wtv l (insM acc x);have:=ws9 acc x;omega
theorem w0l(l:List MG):(mrgF l).length<=l.length:=by
 have:=wtv (l.filter okM) [];have h2:=List.length_filter_le okM l;unfold mrgF;simp at this;omega
def mgC(m:MG):List AV:=[.str m.dev,.q m.seq,.q m.kind,.str m.v.o,.str m.v.p,.q m.v.per,.q m.v.day,.q m.v.st,.q m.v.pr,.str m.v.rep,.str m.d.o,.str m.d.p,.q m.d.per,.str m.d.dev,.q m.d.num]
def waa(g:Nat->MG)(i:Nat):List AV:=[.str (g i).dev,.q (g i).seq,.q (g i).kind,.str (g i).v.o,.str (g i).v.p,.q (g i).v.per,.q (g i).v.day,.q (g i).v.st,.q (g i).v.pr,.str (g i).v.rep,.str (g i).d.o,.str (g i).d.p,.q (g i).d.per,.str (g i).d.dev,.q (g i).d.num]
def mgOf(f:Nat->List AV)(i:Nat):MG:=match f i with
 |[.str dev,.int .i64 seq,.int .i64 kind,.str o,.str p,.int .i64 per,.int .i64 day,.int .i64 st,.int .i64 pr,.str rep,.str o',.str p',.int .i64 per',.str dev',.int .i64 num]=>⟨dev,seq,kind,⟨o,p,per,day,st,pr,rep⟩,⟨o',p',per',dev',num⟩⟩
 |_=>default
def wln:Spec
 |[.str a,.str b],[]=>some (.q (cmpS a b),[],True)
 |_,_=>none
def S_mcmp:Spec
 |[.agg [.str dev,.int .i64 seq,.int .i64 kind,.str o,.str p,.int .i64 per,.int .i64 day,.int .i64 st,.int .i64 pr,.str rep,.str o',.str p',.int .i64 per',.str dev',.int .i64 num],.agg [.str dev2,.int .i64 seq2,.int .i64 kind2,.str o2,.str p2,.int .i64 per2,.int .i64 day2,.int .i64 st2,.int .i64 pr2,.str rep2,.str o3,.str p3,.int .i64 per3,.str dev3,.int .i64 num2]],[]=>some (.q (ordM ⟨dev,seq,kind,⟨o,p,per,day,st,pr,rep⟩,⟨o',p',per',dev',num⟩⟩ ⟨dev2,seq2,kind2,⟨o2,p2,per2,day2,st2,pr2,rep2⟩,⟨o3,p3,per3,dev3,num2⟩⟩),[],True)
 |_,_=>none
def wmv:wdm
 |[.own 0 n,.func 98 []],[.row t 15 m f fr],R=>t=47/\fr=false/\n=m/\n<=1000000/\f=waa (mgOf f)/\
   ∀h:Nat->MG,(lst h n).Perm (lst (mgOf f) n)->(∀i j,i<j->j<n->¬ ordM (h j) (h i)<0)->R (.tuple []) [(0,.row 47 15 n (waa h) false)]
 |_,_,_=>False
end Go.Eng
namespace Go.Eng
open Go.Proofs Go.RowKit
variable {H:Type} {enc:TypeId×Value->H} {W:World}
theorem undMV:Tryz.prog.underlying 43=some (.struct (fsOf 43)):=by kernel_rfl
theorem cMV:Tryz.prog.cellsOf 43=7:=by kernel_rfl
def ELm(W:World):List Value->List AV->Prop
 |[],[]=>True
 |v::cs,u::us=>(v.oneCell'=true/\V W (λ_=>False) nob v u)/\ELm W cs us
 |_,_=>False
theorem ELm.len:∀ {cs:List Value} {us:List AV},ELm W cs us->cs.length=us.length
 |[],[],_=>rfl
 |_::_,_::_,h=>by rw[List.length_cons,List.length_cons,h.2.len]
theorem ELm.get:∀ {cs:List Value} {us:List AV},ELm W cs us->∀ {j:Nat} {v:Value},cs[j]?=some v->v.oneCell'=true/\∀u,us[j]?=some u->V W (λ_=>False) nob v u
 |[],[],_,_,_,h=>by simp at h
 |v::cs,u::us,⟨h,_⟩,0,w,hw=>by
  obtain rfl:v=w:=by simpa using hw
  exact⟨h.1,λu' hu=>by
   have hu:some u=some u':=hu;obtain rfl:=oJ7 hu;exact h.2⟩
 |v::cs,u::us,⟨_,h⟩,j+1,w,hw=>by
  have:=h.get (j:=j) (v:=w) (by simpa using hw);exact⟨this.1,λu' hu=>this.2 u' (by simpa using hu)⟩
theorem wxe{α:Type}(d:α)(row:α->List AV)(Rg:α->Prop){sz ts t:Nat}(hu:Tryz.prog.underlying ts=some (.slice t))(hc:Tryz.prog.cellsOf t=sz)(hz:0<sz)(hrow:∀a,(row a).length=sz)
  (elem:∀ {sp:Nat->Bool} {hd:Bool} {n:Nat} {cs:List Value} {x:DataW H×List MemPlace},DataW.trod enc Tryz.prog W 0 sp hd n t cs=some x->∃m,Rg m/\ELm W cs (row m))
  {fuel:Nat} {cs:List Value} {x:DataW H×List MemPlace} {sp:Nat->Bool} {hd:Bool} (h:DataW.trod enc Tryz.prog W 0 sp hd fuel ts cs=some x):
  ∃(A:Option Addr) (n c:Nat) (g:Nat->α),cs=[.slice A n c]/\V W (λ_=>False) nob (.slice A n c) (.view sz n λi=>row (g i))/\∀i,i<n->Rg (g i):=by
 rcases DataW.trod_slice hu h with⟨rfl,_⟩ | ⟨a,len,cap,elems,rest,n,_,rfl,_,hb,hl,hm,hlen,hel,_⟩
 ·exact⟨none,0,0,λ_=>d,rfl,wkr _ (lR7 _) (zL7 _) (λi hi=>by omega) (.inl rfl),λi hi=>absurd hi (nZ7 i)⟩
 ·have hat:∀i,∃m,i<len->Rg m/\∃cs',ELm W cs' (row m)/\∀j,j<sz->W.cell? (a.add (i * sz+j))=cs'[j]?:=by
   intro i
   by_cases hi:i<len
   ·have h1:=hel i hi;rw[hc,List.getElem?_eq_getElem (by omega),Option.bind_eq_some_iff] at h1;obtain⟨cs',hcs,hy⟩:=h1;obtain⟨m,hR,hE⟩:=elem hy;obtain⟨_,_,h2⟩:=World.cells?_some hcs;exact⟨m,λ_=>⟨hR,cs',hE,λj hj=>by have q:=h2 j hj;rwa [wu9] at q⟩⟩
   ·exact⟨d,λh=>absurd h hi⟩
  let g:Nat->α:=λi=>Classical.choose (hat i)
  have hg:∀i,i<len->Rg (g i)/\∃cs',ELm W cs' (row (g i))/\∀j,j<sz->W.cell? (a.add (i * sz+j))=cs'[j]?:=λi=>Classical.choose_spec (hat i);refine⟨some a,len,cap,g,rfl,wkr _ hl hm (λi _=>hrow (g i)) ?_,λi hi=>(hg i hi).1⟩
  by_cases h0:len=0
  ·exact .inl h0
  ·refine .inr ⟨a,rfl,?_,λi hi j hj=>?_⟩
   ·have h1:=hel 0 (by omega);rw[List.getElem?_eq_getElem (show 0<elems.length by omega),Option.bind_eq_some_iff] at h1;obtain⟨cs',hcs,_⟩:=h1;rw[hc] at hcs;have q:=World.cells?_block hcs (by omega);rw[wva] at q;exact q
   ·obtain⟨_,cs',hE,hcell⟩:=hg i hi;have hlen':cs'.length=sz:=by rw[hE.len,hrow]
    have e:cs'[j]?=some (cs'[j]'(by omega)):=List.getElem?_eq_getElem (by omega);have q:=hE.get e;exact⟨_,(hcell j hj).trans e,q.1,λu hu=>q.2 u hu⟩
end Go.Eng
namespace Go.Eng
def wmx:wdm
 |[.nil,.int .i64 n],[],R=>0<=n/\n<=1000000/\(n=0->R .nil [])/\(0<n->R (.own 0 0) [(0,.row 47 15 0 (λ_=>[]) false)])
 |_,_,_=>False
def eqM(a b:MG):Bool:=decide (a.dev=b.dev) && (decide (a.seq=b.seq) && (decide (a.kind=b.kind) && ((decide (a.v.o=b.v.o) && (decide (a.v.p=b.v.p) && (decide (a.v.per=b.v.per) && (decide (a.v.day=b.v.day) && (decide (a.v.st=b.v.st) && (decide (a.v.pr=b.v.pr) && decide (a.v.rep=b.v.rep))))))) && (decide (a.d.o=b.d.o) && (decide (a.d.p=b.d.p) && (decide (a.d.per=b.d.per) && (decide (a.d.dev=b.d.dev) && decide (a.d.num=b.d.num))))))))
def wcb(g:Nat->MG)(i:Nat):Bool:=decide (i=0) || !eqM (g i) (g (i - 1))
def ddL(g:Nat->MG)(m:Nat):List MG:=((List.range m).filter (wcb g)).map g
def allK(g:Nat->MG):Nat->Bool
 |0=>true
 |k+1=>allK g k && wcb g k
def wm0:wdm
 |[.own 0 n],[.row t 15 m f fr],R=>t=47/\fr=false/\n=m/\n<=1000000/\f=waa (mgOf f)/\
   ∀(k:Nat) (h:Nat->MG),lst h k=ddL (mgOf f) n->R (.own 0 k) [(0,.row 47 15 k (waa h) false)]
 |_,_,_=>False
def S_cp(g:Nat->MG)(n k:Nat):St:=⟨[(0,.own 0 n),(3,.q k)],[(0,.row 47 15 n (waa g) false)],1,[]⟩
def L_cp(g:Nat->MG)(n:Nat):waq:=λst Q=>canonIs te 1 [0,3] st (S_cp g n 1)/\2<=n/\n<=1000000/\
 (allK g n=true->Q (.exit 0) ⟨[(0,.own 0 n)],[(0,.row 47 15 n (waa g) false)],1,[]⟩)/\
 ∀(w:Nat) (h:Nat->MG),lst h w=ddL g n->Q .ret ⟨[(2,.own 0 w)],[(0,.row 47 15 w (waa h) false)],1,[]⟩
structure CI where
 k:Nat
 w:Nat
 h:Nat->MG
def S_ci(_g:Nat->MG)(n k0:Nat)(i:CI):St:=⟨[(0,.own 0 n),(3,.q i.w),(4,.sub 0 15 k0 (n - k0)),(5,.q i.k)],[(0,.row 47 15 n (waa i.h) false)],1,[]⟩
def L_ci(g:Nat->MG)(n k0:Nat):waq:=λst Q=>canonIs te 1 [0,3,4,5] st (S_ci g n k0 ⟨1,k0,g⟩)/\(1<=k0/\k0<n/\n<=1000000)/\allK g k0=true/\wcb g k0=false/\
 ∀(w:Nat) (h:Nat->MG),w<=n->lst h w=ddL g n->Q (.exit 2) ⟨[(0,.own 0 n),(3,.q w)],[(0,.row 47 15 n (waa h) false)],1,[]⟩
end Go.Eng
