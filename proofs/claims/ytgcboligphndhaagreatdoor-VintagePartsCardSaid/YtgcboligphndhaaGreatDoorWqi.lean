/- DERIVED: THE SHELF's CONTRACTS AT THIS DUMP, IN PLAIN WORDS (tools/lay-plain.mjs out of 'TryzSortL.lean', which tools/lay-shelf.mjs wrote): THE SAME DECLARATIONS UNDER THE SAME NAMES: 'import', 'namespace', 'open', 'def', 'theorem' AND NOTHING ELSE: no command of the shelf's: FOR A HAND-IN. Each laying: the table of numbers ('.._ren') and one theorem, a field a fact of the dump's own or the kernel's comparison; each contract: ONE APPLICATION. -/
import Derived.Test.YtgcboligphndhaaGreatDoorWqf
import Derived.Shelf.SlGeneric
import Derived.Ground.Names8Prog
import Derived.Shelf.Spec.SlicesGrow
namespace Go.Eng
structure PreC {α:Type} (c:α->α->Int):Prop where
 neg:∀x y,c y x<0↔0<c x y
 trans:∀x y z,c x y<=0->c y z<=0->c x z<=0
namespace PreC
variable {α β:Type} {c:α->α->Int}
theorem self(h:PreC c)(x:α):c x x=0:=by
 have:=h.neg x x;omega
theorem lt_le(h:PreC c){x y z:α}(a:c x y<0)(b:c y z<=0):c x z<0:=by
 have h1:=h.trans x y z (by omega) b;have h2:=h.neg x z;have h3:=h.neg z x
 rcases Int.lt_or_eq_of_le h1 with h' | h'
 .exact h'
 .have h4:c z x<=0:=by omega
  have h5:=h.trans y z x b h4;have:=h.neg y x;omega
theorem le_lt(h:PreC c){x y z:α}(a:c x y<=0)(b:c y z<0):c x z<0:=by
 have h1:=h.trans x y z a (by omega);have h2:=h.neg x z;have h3:=h.neg z x
 rcases Int.lt_or_eq_of_le h1 with h' | h'
 .exact h'
 .have h4:c z x<=0:=by omega
  have h5:=h.trans z x y h4 a;have:=h.neg z y;omega
theorem lt_trans(h:PreC c){x y z:α}(a:c x y<0)(b:c y z<0):c x z<0:=h.lt_le a (by omega)
theorem eq_symm(h:PreC c){x y:α}(a:c x y=0):c y x=0:=by
 have h1:=h.neg x y;have h2:=h.neg y x;omega
theorem comap(h:PreC c)(f:β->α):PreC λx y=>c (f x) (f y):=⟨λ_x _y=>h.neg _ _,λ_x _y _z=>h.trans _ _ _⟩
end PreC
def orL:List Int->Int
 |[]=>0
 |x::l=>bif decide (x=0) then orL l else x
theorem PreC.nil{α:Type}:PreC λ(_ _:α)=>orL []:=⟨λ_ _=>by simp[orL],λ_ _ _ _ _=>by simp[orL]⟩
theorem PreC.or{α:Type}{c:α->α->Int}{d:α->α->List Int}(h:PreC c)(k:PreC λx y=>orL (d x y)):PreC λx y=>orL (c x y::d x y):=by
 have e:∀x y,orL (c x y::d x y)=if c x y=0 then orL (d x y) else c x y:=λx y=>by
  rw[orL];by_cases q:c x y=0<;>simp[q]
 refine⟨λx y=>?_,λx y z h1 h2=>?_⟩
 .rw[e,e];have h1:=h.neg x y;have h2:=h.neg y x;have h3:=k.neg x y
  by_cases q:c x y=0
  .rw[if_pos q,if_pos (h.eq_symm q)];exact h3
  .rw[if_neg q,if_neg (λq'=>q (h.eq_symm q'))];exact h1
 .rw[e] at h1 h2 ⊢
  by_cases q:c x y=0
  .rw[if_pos q] at h1
   by_cases q':c y z=0
   .rw[if_pos q'] at h2;have a1:=h.trans x y z (by omega) (by omega);have a2:=h.trans z y x (by have:=h.eq_symm q';omega) (by have:=h.eq_symm q;omega);have a3:=h.neg z x;rw[if_pos (by omega)];exact k.trans x y z h1 h2
   .rw[if_neg q'] at h2;have a1:=h.le_lt (x:=x) (y:=y) (z:=z) (by omega) (by omega);rw[if_neg (by omega)];exact Int.le_of_lt a1
  .rw[if_neg q] at h1;have:c y z<=0:=by
    by_cases q':c y z=0
    .omega
    .rw[if_neg q'] at h2;exact h2
   have a1:=h.lt_le (x:=x) (y:=y) (z:=z) (by omega) this;rw[if_neg (by omega)];exact Int.le_of_lt a1
theorem wi8{x:Int}{l:List Int}:orL (x::l)=0↔x=0/\orL l=0:=by
 rw[orL]
 by_cases h:x=0<;>simp[h]
def cmpI(a b:Int):Int:=bif decide (a<b) then -1 else bif decide (b<a) then 1 else 0
def cmpS(a b:List UInt8):Int:=bif Op.bytesLess a b then -1 else bif Op.bytesLess b a then 1 else 0
theorem we4(a b:Int):(a<b/\cmpI a b= -1)∨(a=b/\cmpI a b=0)∨(b<a/\cmpI a b=1):=by
 unfold cmpI
 by_cases h:a<b
 .simp[h]
 .by_cases h':b<a
  .simp[h,h']
  .have:a=b:=by omega
   simp[this]
theorem wdo:PreC cmpI:=by
 refine⟨λx y=>?_,λx y z=>?_⟩
 .have:=we4 x y;have:=we4 y x;omega
 .have:=we4 x y;have:=we4 y z;have:=we4 x z;omega
theorem ws6{a b:Int}:cmpI a b=0↔a=b:=by have:=we4 a b;omega
theorem wgv:∀a:List UInt8,Op.bytesLess a a=false
 |[]=>rfl
 |a::x=>by simp[Op.bytesLess,wgv x]
theorem bl_tri:∀a b:List UInt8,Op.bytesLess a b=true∨a=b∨Op.bytesLess b a=true
 |[],[]=>.inr (.inl rfl)
 |[],_::_=>.inl rfl
 |_::_,[]=>.inr (.inr rfl)
 |a::x,b::y=>by
  simp only[Op.bytesLess,Bool.or_eq_true,bA7,decide_eq_true_eq,beq_iff_eq]
  rcases bl_tri x y with h | h | h
  .by_cases e:a=b
   .exact .inl (.inr ⟨e,h⟩)
   .rcases Nat.lt_or_gt_of_ne (λq=>e (UInt8.toNat_inj.1 q)) with q | q
    .exact .inl (.inl q)
    .exact .inr (.inr (.inl q))
  .by_cases e:a=b
   .exact .inr (.inl (by rw[e,h]))
   .rcases Nat.lt_or_gt_of_ne (λq=>e (UInt8.toNat_inj.1 q)) with q | q
    .exact .inl (.inl q)
    .exact .inr (.inr (.inl q))
  .by_cases e:a=b
   .exact .inr (.inr (.inr ⟨e.symm,h⟩))
   .rcases Nat.lt_or_gt_of_ne (λq=>e (UInt8.toNat_inj.1 q)) with q | q
    .exact .inl (.inl q)
    .exact .inr (.inr (.inl q))
theorem ws9:∀a b c:List UInt8,Op.bytesLess a b=true->Op.bytesLess b c=true->Op.bytesLess a c=true
 |_,[],_,h,_=>by cases ‹List UInt8› <;>simp[Op.bytesLess] at h
 |_,_::_,[],_,h=>by simp[Op.bytesLess] at h
 |[],_::_,_::_,_,_=>rfl
 |a::x,b::y,c::z,h,k=>by
  simp only[Op.bytesLess,Bool.or_eq_true,bA7,decide_eq_true_eq,beq_iff_eq] at h k ⊢
  rcases h with h | ⟨rfl,h⟩
  .rcases k with k | ⟨rfl,k⟩
   .exact .inl (UInt8.lt_trans h k)
   .exact .inl h
  .rcases k with k | ⟨rfl,k⟩
   .exact .inl k
   .exact .inr ⟨rfl,ws9 x y z h k⟩
theorem wta{a b:List UInt8}(h:Op.bytesLess a b=true):Op.bytesLess b a=false:=by
 cases q:Op.bytesLess b a with
 |false=>rfl
 |true=>have:=ws9 a b a h q;rw[wgv] at this;cases this
theorem whr(a b:List UInt8):(Op.bytesLess a b=true/\cmpS a b= -1)∨(a=b/\cmpS a b=0)∨(Op.bytesLess b a=true/\cmpS a b=1):=by
 unfold cmpS
 rcases bl_tri a b with h | h | h
 .exact .inl ⟨h,by rw[h];rfl⟩
 .subst h;exact .inr (.inl ⟨rfl,by rw[wgv];rfl⟩)
 .exact .inr (.inr ⟨h,by rw[wta h,h];rfl⟩)
theorem wcx{a b:List UInt8}:cmpS a b=0↔a=b:=by
 constructor
 .intro h
  rcases whr a b with⟨_,q⟩ | ⟨q,_⟩ | ⟨_,q⟩
  .omega
  .exact q
  .omega
 .rintro rfl;unfold cmpS;rw[wgv];rfl
theorem wgt{a b:List UInt8}:cmpS a b<0↔Op.bytesLess a b=true:=by
 rcases whr a b with⟨h,q⟩ | ⟨h,q⟩ | ⟨h,q⟩
 .exact⟨λ_=>h,λ_=>by omega⟩
 .subst h;rw[wgv,q];simp
 .rw[wta h,q];simp
theorem wc9:PreC cmpS:=by
 refine⟨λx y=>?_,λx y z h1 h2=>?_⟩
 .rw[wgt]
  rcases whr x y with⟨h,q⟩ | ⟨h,q⟩ | ⟨h,q⟩
  .rw[wta h,q];simp
  .subst h;rw[wgv,q];simp
  .rw[h,q];simp
 .rcases whr x y with⟨h,q⟩ | ⟨h,q⟩ | ⟨h,q⟩
  .rcases whr y z with⟨h',q'⟩ | ⟨h',q'⟩ | ⟨h',q'⟩
   .have:=wgt.2 (ws9 x y z h h');omega
   .subst h';omega
   .omega
  .subst h;exact h2
  .omega
def Asc{α:Type}(c:α->α->Int)(l:List α):Prop:=l.Pairwise λx y=>c x y<0
theorem Asc.uniq{α:Type}{c:α->α->Int}(hc:PreC c):∀ {l l':List α},Asc c l->Asc c l'->(∀x,x∈l↔x∈l')->l=l'
 |[],[],_,_,_=>rfl
 |[],y::l',_,_,h=>by have:=(h y).2 (List.mem_cons_self ..);cases this
 |x::l,[],_,_,h=>by have:=(h x).1 (List.mem_cons_self ..);cases this
 |x::l,y::l',h1,h2,h=>by
  obtain⟨a1,a2⟩:=List.pairwise_cons.1 h1;obtain⟨b1,b2⟩:=List.pairwise_cons.1 h2;have e:x=y:=by
   rcases List.mem_cons.1 ((h x).1 (List.mem_cons_self ..)) with q | q
   .exact q
   .rcases List.mem_cons.1 ((h y).2 (List.mem_cons_self ..)) with q' | q'
    .exact q'.symm
    .have e1:=b1 x q;have e2:=a1 y q';have:=hc.lt_trans e1 e2;rw[hc.self] at this;omega
  subst e;have irr:∀ {l:List α},(∀z,z∈l->c x z<0)->x ∉ l:=λhl hx=>by have:=hl x hx;rw[hc.self] at this;omega
  rw[Asc.uniq hc a2 b2 λz=>⟨λhz=>?_,λhz=>?_⟩]
  .rcases List.mem_cons.1 ((h z).1 (List.mem_cons_of_mem _ hz)) with q | q
   .exact absurd (q ▸ hz) (irr a1)
   .exact q
  .rcases List.mem_cons.1 ((h z).2 (List.mem_cons_of_mem _ hz)) with q | q
   .exact absurd (q ▸ hz) (irr b1)
   .exact q
theorem Asc.of_sorted{α:Type}{c:α->α->Int}{l:List α}(h:l.Pairwise λx y=>¬ c y x<0)(hc:PreC c)(hn:l.Pairwise λx y=>c x y≠0):Asc c l:=by
 refine(h.and hn).imp ?_;rintro x y ⟨a,b⟩;have:=hc.neg x y;omega
theorem wvr{α:Type}{r:α->α->Prop}{n:Nat}{f:Nat->α}(h:∀i j,i<j->j<n->r (f i) (f j)):((List.range n).map f).Pairwise r:=by
 rw[List.pairwise_map];exact List.pairwise_lt_range.imp_of_mem λ{i j} _ hj hij=>h i j hij (List.mem_range.1 hj)
def wbr(nm:Nat->List UInt8):Nat->List (AV×AV)
 |0=>[]
 |k+1=>wbr nm k++[(.str (nm k),.bool true)]
theorem wwf(nm:Nat->List UInt8)(x:List UInt8):∀j,mget (wbr nm j) (.str x)=bif (List.range j).any (λi=>decide (nm i=x)) then some (.bool true) else none
 |0=>rfl
 |j+1=>by
  have app:∀(l:List (AV×AV)) (k:AV) (p:AV×AV),mget (l++[p]) k=(mget l k).or (bif keq p.1 k then some p.2 else none):=by
   intro l k p
   induction l with
   |nil=>simp only[List.nil_append,mget];cases keq p.1 k<;>rfl
   |cons q l ih=>
    simp only[List.cons_append,mget]
    cases keq q.1 k with
    |true=>rfl
    |false=>exact ih
  rw[wbr,app,wwf nm x j,List.range_succ,List.any_append];simp only[List.any_cons,List.any_nil,Bool.or_false,keq]
  cases (List.range j).any (λi=>decide (nm i=x))<;>cases decide (nm j=x)<;>rfl
theorem wll(nm:Nat->List UInt8)(k:Nat):∀j,wjp nm j k= !(List.range j).any (λi=>decide (nm i=nm k))
 |0=>rfl
 |j+1=>by
  rw[wjp,wll nm k j,List.range_succ,List.any_append];simp only[List.any_cons,List.any_nil,Bool.or_false,Bool.not_or];congr 2;simp only[eq_comm]
theorem w5t(nm:Nat->List UInt8)(x:List UInt8)(v:AV):∀j,(List.range j).any (λi=>decide (nm i=x))=false->mset (wbr nm j) (.str x) v=wbr nm j++[(.str x,v)]:=by
 have app:∀(l:List (AV×AV)) (k v:AV),(∀p∈l,keq p.1 k=false)->mset l k v=l++[(k,v)]:=by
  intro l k v h
  induction l with
  |nil=>rfl
  |cons q l ih=>
   simp only[List.cons_append,mset];rw[h q (List.mem_cons_self ..),ih (λp hp=>h p (List.mem_cons_of_mem _ hp))]
 intro j hj;apply app
 induction j with
 |zero=>intro p hp;cases hp
 |succ j ih=>
  rw[List.range_succ,List.any_append,Bool.or_eq_false_iff] at hj;intro p hp;rw[wbr,List.mem_append] at hp
  rcases hp with hp | hp
  .exact ih hj.1 p hp
  .obtain rfl:=List.mem_singleton.1 hp;simpa[keq] using hj.2
theorem wu0(nm vl:Nat->List UInt8):∀k,weg nm vl k=true->wb9 .string (wbr nm k)
 |0,_=>⟨rfl,List.nodup_nil⟩
 |k+1,h=>by
  rw[weg,bA7] at h;obtain⟨h1,h2⟩:=wu0 nm vl k h.1;have hf:wjp nm k k=true:=by
   have:=h.2;unfold atOK at this;rw[bA7] at this;exact this.2
  rw[wll,Bool.not_eq_true'] at hf;have hmem:∀j,(List.range j).any (λi=>decide (nm i=nm k))=false->AV.str (nm k) ∉ (wbr nm j).map Prod.fst:=by
   intro j
   induction j with
   |zero=>intro _ hm;cases hm
   |succ j ih=>
    intro hj hm;rw[List.range_succ,List.any_append,Bool.or_eq_false_iff] at hj;rw[wbr,List.map_append,List.mem_append] at hm
    rcases hm with hm | hm
    .exact ih hj.1 hm
    .have:=List.mem_singleton.1 hm;injection this with this;have hj2:=hj.2;simp[this.symm] at hj2
  refine⟨?_,?_⟩
  .rw[wbr,List.all_append,h1];rfl
  .rw[wbr,List.map_append,List.nodup_append];refine⟨h2,by simp,?_⟩;intro a ha b hb hab;obtain rfl:=List.mem_singleton.1 hb;subst hab;exact hmem k hf ha
theorem wuz(σ:Nat->Option Nat)(nm:Nat->List UInt8):∀k,(wbr nm k).map (λp=>(p.1.rn σ,p.2.rn σ))=wbr nm k
 |0=>rfl
 |k+1=>by rw[wbr,List.map_append,wuz σ nm k];rfl
def S_valV:Spec
 |[.agg [.str id,.str code,.str brand,.int .i64 d,.int .i64 c,.int .i64 a,.view 2 n f]],[]=>some (.q (valF id code brand d c a n (nmOf f) (vlOf f)),[],
   n<=4294967281/\code.length<4294967281/\brand.length<4294967281/\(∀i,i<n->(nmOf f i).length<4294967281/\(vlOf f i).length<4294967281)/\f=wft (nmOf f) (vlOf f))
 |_,_=>none
def S_vw(n:Nat)(nm vl:Nat->List UInt8)(k:Nat):St:=⟨[(3,.map 0),(33,.view 2 n (wft nm vl)),(34,.q n),(35,.q k)],[(0,.amap (wbr nm k))],1,[]⟩
def L_vw(n:Nat)(nm vl:Nat->List UInt8):war:=λst Q=>canonIs te 0 [3,33,34,35] st (S_vw n nm vl 0)/\n<=12/\(∀i,i<n->(nm i).length<4294967281/\(vl i).length<4294967281)/\
 wab (weg nm vl n) (Q (.exit 1) ⟨[],[],0,[]⟩) (Q .ret ⟨[(2,.q 94)],[],0,[]⟩)
structure VT where
 o:List UInt8
 p:List UInt8
 per:Int
 day:Int
 st:Int
 pr:Int
 rep:List UInt8
 deriving Inhabited
structure DT where
 o:List UInt8
 p:List UInt8
 per:Int
 dev:List UInt8
 num:Int
 deriving Inhabited
structure MG where
 dev:List UInt8
 seq:Int
 kind:Int
 v:VT
 d:DT
 deriving Inhabited
structure RW where
 o:List UInt8
 p:List UInt8
 per:Int
 u:Int
 tv:Int
 deriving Inhabited
def wbi(o p:List UInt8)(per:Int):Bool:=wa5 o && wbc p && decide (0<=per) && decide (per<=5999)
def rowF(r:RW):Bool:=wbi r.o r.p r.per && decide (1<=min r.u r.tv) && decide (max r.u r.tv<=1099511627776)
def visF(v:VT):Bool:=wbi v.o v.p v.per && decide (0<=v.day) && decide (v.day<=182620) &&
 (bif decide (v.st=1) || decide (v.st=2) then decide (1<=v.pr) && decide (v.pr<=1099511627776) && decide (v.rep=[])
 else bif decide (v.st=3) || decide (v.st=4) then decide (v.pr=0) && decide (v.rep=[])
 else bif decide (v.st=5) then decide (1<=v.pr) && decide (v.pr<=1099511627776) && wbc v.rep && !decide (v.rep=v.p) else false)
def VT.nil(v:VT):Bool:=decide (v.o=[]) && (decide (v.p=[]) && (decide (v.per=0) && (decide (v.day=0) && (decide (v.st=0) && (decide (v.pr=0) && decide (v.rep=[]))))))
def DT.nil(d:DT):Bool:=decide (d.o=[]) && (decide (d.p=[]) && (decide (d.per=0) && (decide (d.dev=[]) && decide (d.num=0))))
def numF(n:Int):Bool:=decide (1<=n) && decide (n<=1048576)
def msgF(m:MG):Int:=bif !wa5 m.dev then 110 else bif !numF m.seq then 111 else bif !decide (m.kind=1) && !decide (m.kind=2) then 112
 else bif (decide (m.kind=1) && !visF m.v) || (decide (m.kind=2) && !m.v.nil) then 113
 else bif (decide (m.kind=1) && !m.d.nil) || (decide (m.kind=2) && !(wbi m.d.o m.d.p m.d.per && wa5 m.d.dev && numF m.d.num)) then 114 else 0
def wml:Spec
 |[.agg [.str id,.str code,.str brand,.int .i64 d,.int .i64 c,.int .i64 a,.nil]],[]=>some (.q (valF id code brand d c a 0 (λ_=>[]) (λ_=>[])),[],code.length<4294967281/\brand.length<4294967281)
 |_,_=>none
def woi:Spec
 |[.int .i64 d],[]=>some (.bool (decide (0<=d) && decide (d<=182620)),[],True)
 |_,_=>none
def wic:Spec
 |[.str s],[]=>some (.bool (wa5 s),[],s.length<4294967281)
 |_,_=>none
def wek:Spec
 |[.str o,.str p,.int .i64 per],[]=>some (.bool (wbi o p per),[],o.length<4294967281)
 |_,_=>none
def wng:Spec
 |[.int .i64 n],[]=>some (.bool (numF n),[],True)
 |_,_=>none
def whw:Spec
 |[.int .i64 d],[]=>some (.q (bif decide (0<=d) && decide (d<=182620) then d % 7 else -1),[],True)
 |_,_=>none
def wfv:Spec
 |[.agg [.str o,.str p,.int .i64 per,.int .i64 day,.int .i64 st,.int .i64 pr,.str rep]],[]=>some (.bool (visF ⟨o,p,per,day,st,pr,rep⟩),[],o.length<4294967281)
 |_,_=>none
def wcf:Spec
 |[.agg [.str dev,.int .i64 seq,.int .i64 kind,.str o,.str p,.int .i64 per,.int .i64 day,.int .i64 st,.int .i64 pr,.str rep,.str o',.str p',.int .i64 per',.str dev',.int .i64 num]],[]=>
   some (.q (msgF ⟨dev,seq,kind,⟨o,p,per,day,st,pr,rep⟩,⟨o',p',per',dev',num⟩⟩),[],dev.length<4294967281/\o.length<4294967281/\o'.length<4294967281/\dev'.length<4294967281)
 |_,_=>none
def keyC(a b:RW):Int:=orL [cmpS a.o b.o,cmpS a.p b.p,cmpI a.per b.per]
theorem wc2:PreC keyC:=(wc9.comap RW.o).or ((wc9.comap RW.p).or ((wdo.comap RW.per).or .nil))
def wat(a b:RW):Bool:=decide (a.o=b.o) && decide (a.p=b.p) && decide (a.per=b.per)
theorem wc6{a b:RW}:wat a b=true↔a.o=b.o/\a.p=b.p/\a.per=b.per:=by simp[wat,and_assoc]
theorem whh{a b:RW}:keyC a b=0↔wat a b=true:=by
 rw[wc6,keyC,wi8,wi8,wi8,wcx,wcx,ws6];simp[orL]
theorem wi0(a:RW):wat a a=true:=wc6.2 ⟨rfl,rfl,rfl⟩
theorem wd2{a b:RW}(h:wat a b=true):wat b a=true:=by
 obtain⟨h1,h2,h3⟩:=wc6.1 h;exact wc6.2 ⟨h1.symm,h2.symm,h3.symm⟩
theorem wgg{a b c:RW}(h:wat a b=true)(k:wat b c=true):wat a c=true:=by
 obtain⟨h1,h2,h3⟩:=wc6.1 h;obtain⟨k1,k2,k3⟩:=wc6.1 k;exact wc6.2 ⟨h1.trans k1,h2.trans k2,h3.trans k3⟩
theorem wq8{a b:RW}(h:wat a b=true)(c:RW):wat a c=wat b c:=by
 obtain⟨h1,h2,h3⟩:=wc6.1 h;unfold wat;rw[h1,h2,h3]
def sumU(x:RW):List RW->Int
 |[]=>0
 |r::l=>(bif wat x r then r.u else 0)+sumU x l
def sumT(x:RW):List RW->Int
 |[]=>0
 |r::l=>(bif wat x r then r.tv else 0)+sumT x l
theorem wqt(x:RW):∀(l l':List RW),sumU x (l++l')=sumU x l+sumU x l'
 |[],l'=>by simp[sumU]
 |r::l,l'=>by rw[List.cons_append,sumU,sumU,wqt x l l'];omega
theorem wqv(x:RW):∀(l l':List RW),sumT x (l++l')=sumT x l+sumT x l'
 |[],l'=>by simp[sumT]
 |r::l,l'=>by rw[List.cons_append,sumT,sumT,wqv x l l'];omega
theorem w0d(x:RW){l l':List RW}(h:l.Perm l'):sumU x l=sumU x l':=by
 induction h with
 |nil=>rfl
 |cons _ _ ih=>rw[sumU,sumU,ih]
 |swap=>simp only[sumU];omega
 |trans _ _ h1 h2=>exact h1.trans h2
theorem w0e(x:RW){l l':List RW}(h:l.Perm l'):sumT x l=sumT x l':=by
 induction h with
 |nil=>rfl
 |cons _ _ ih=>rw[sumT,sumT,ih]
 |swap=>simp only[sumT];omega
 |trans _ _ h1 h2=>exact h1.trans h2
theorem wiu{x y:RW}(h:wat x y=true):∀l,sumU x l=sumU y l
 |[]=>rfl
 |r::l=>by rw[sumU,sumU,wiu h l,wq8 h]
theorem wiv{x y:RW}(h:wat x y=true):∀l,sumT x l=sumT y l
 |[]=>rfl
 |r::l=>by rw[sumT,sumT,wiv h l,wq8 h]
theorem wuj{x:RW}:∀ {l:List RW},(∀r∈l,wat x r=false)->sumU x l=0
 |[],_=>rfl
 |r::l,h=>by rw[sumU,h r (List.mem_cons_self ..),wuj λr' hr=>h r' (List.mem_cons_of_mem _ hr)];rfl
theorem wuk{x:RW}:∀ {l:List RW},(∀r∈l,wat x r=false)->sumT x l=0
 |[],_=>rfl
 |r::l,h=>by rw[sumT,h r (List.mem_cons_self ..),wuk λr' hr=>h r' (List.mem_cons_of_mem _ hr)];rfl
structure IsSums (l out:List RW):Prop where
 parts:out.Pairwise λa b=>wat a b=false
 sums:∀r∈out,(∃x∈l,wat r x=true)/\r.u=sumU r l/\r.tv=sumT r l
 all:∀x∈l,∃r∈out,wat x r=true
theorem IsSums.nil:IsSums [] []:=⟨.nil,λ_ h=>(by cases h),λ_ h=>(by cases h)⟩
theorem IsSums.perm{l l' out out':List RW}(h:IsSums l out)(hl:l.Perm l')(ho:out.Perm out'):IsSums l' out':=by
 refine⟨?_,λr hr=>?_,λx hx=>?_⟩
 .exact(ho.pairwise_iff (λ{a b} hab=>by
   cases q:wat b a with
   |false=>rfl
   |true=>rw[wd2 q] at hab;cases hab)).1 h.parts
 .obtain⟨⟨x,hx,hs⟩,h1,h2⟩:=h.sums r (ho.mem_iff.2 hr);exact⟨⟨x,hl.mem_iff.1 hx,hs⟩,by rw[h1,w0d r hl],by rw[h2,w0e r hl]⟩
 .obtain⟨r,hr,hs⟩:=h.all x (hl.mem_iff.2 hx);exact⟨r,ho.mem_iff.1 hr,hs⟩
theorem RW.ext'{a b:RW}(h:wat a b=true)(hu:a.u=b.u)(ht:a.tv=b.tv):a=b:=by
 obtain⟨h1,h2,h3⟩:=wc6.1 h
 cases a;cases b;simp_all
theorem IsSums.mem_iff{l out out':List RW}(h:IsSums l out)(h':IsSums l out')(x:RW):x∈out↔x∈out':=by
 have key:∀ {o1 o2:List RW},IsSums l o1->IsSums l o2->x∈o1->x∈o2:=λk1 k2 hx=>by
  obtain⟨⟨y,hy,hs⟩,e1,e2⟩:=k1.sums x hx;obtain⟨r,hr,hs'⟩:=k2.all y hy;obtain⟨_,f1,f2⟩:=k2.sums r hr;have hxr:=wgg hs hs';rw[RW.ext' hxr (by rw[e1,f1,wiu hxr]) (by rw[e2,f2,wiv hxr])];exact hr
 exact⟨key h h',key h' h⟩
theorem IsSums.uniq{l out out':List RW}(h:IsSums l out)(h':IsSums l out')(a:Asc keyC out)(a':Asc keyC out'):out=out':=
 Asc.uniq wc2 a a' (h.mem_iff h')
def getK:List RW->RW->Option RW
 |[],_=>none
 |r::l,x=>bif wat r x then some r else getK l x
def setK:List RW->RW->List RW
 |[],x=>[x]
 |r::l,x=>bif wat r x then x::l else r::setK l x
def addK(out:List RW)(r:RW):RW:=⟨r.o,r.p,r.per,r.u+((getK out r).map RW.u).getD 0,r.tv+((getK out r).map RW.tv).getD 0⟩
theorem wtn(out:List RW)(r:RW):wat (addK out r) r=true:=wc6.2 ⟨rfl,rfl,rfl⟩
theorem wxl:∀ {l:List RW} {x r:RW},getK l x=some r->r∈l/\wat r x=true
 |[],_,_,h=>by cases h
 |r'::l,x,r,h=>by
  rw[getK] at h
  cases q:wat r' x with
  |true=>rw[q] at h;obtain rfl:=oJ7 h;exact⟨List.mem_cons_self ..,q⟩
  |false=>rw[q] at h;obtain⟨h1,h2⟩:=wxl (l:=l) h;exact⟨List.mem_cons_of_mem _ h1,h2⟩
theorem wxm:∀ {l:List RW} {x:RW},getK l x=none->∀r∈l,wat r x=false
 |[],_,_,_,h=>by cases h
 |r'::l,x,h,r,hr=>by
  rw[getK] at h
  cases q:wat r' x with
  |true=>rw[q] at h;cases h
  |false=>
   rw[q] at h
   rcases List.mem_cons.1 hr with rfl | hr
   .exact q
   .exact wxm (l:=l) h r hr
theorem wq3:∀(l:List RW) (x:RW),x∈setK l x
 |[],x=>by simp[setK]
 |r::l,x=>by
  rw[setK]
  cases q:wat r x with
  |true=>exact List.mem_cons_self ..
  |false=>exact List.mem_cons_of_mem _ (wq3 l x)
theorem wuw:∀ {l:List RW} {x y:RW},y∈l->wat y x=false->y∈setK l x
 |[],_,_,h,_=>by cases h
 |r::l,x,y,h,hn=>by
  rw[setK]
  cases q:wat r x with
  |true=>
   rcases List.mem_cons.1 h with rfl | h
   .rw[hn] at q;cases q
   .exact List.mem_cons_of_mem _ h
  |false=>
   rcases List.mem_cons.1 h with rfl | h
   .exact List.mem_cons_self ..
   .exact List.mem_cons_of_mem _ (wuw h hn)
theorem w0y{a b:RW}(h:wat a b=false):wat b a=false:=by
 cases q:wat b a with
 |false=>rfl
 |true=>rw[wd2 q] at h;cases h
theorem wuv:∀ {l:List RW} (x:RW),(l.Pairwise λa b=>wat a b=false)->((setK l x).Pairwise λa b=>wat a b=false)/\∀y,y∈setK l x->y=x∨(y∈l/\wat y x=false)
 |[],x,_=>⟨by simp[setK],λy h=>.inl (by simpa[setK] using h)⟩
 |r::l,x,h=>by
  obtain⟨h1,h2⟩:=List.pairwise_cons.1 h;rw[setK]
  cases q:wat r x with
  |true=>
   have hl:∀y∈l,wat x y=false:=λy hy=>by rw[← wq8 q];exact h1 y hy
   refine⟨List.pairwise_cons.2 ⟨hl,h2⟩,λy hy=>?_⟩
   rcases List.mem_cons.1 hy with rfl | hy
   .exact .inl rfl
   .exact .inr ⟨List.mem_cons_of_mem _ hy,w0y (hl y hy)⟩
  |false=>
   obtain⟨i1,i2⟩:=wuv (l:=l) x h2;refine⟨List.pairwise_cons.2 ⟨λy hy=>?_,i1⟩,λy hy=>?_⟩
   .rcases i2 y hy with rfl | ⟨h,_⟩
    .exact q
    .exact h1 y h
   .rcases List.mem_cons.1 hy with rfl | hy
    .exact .inr ⟨List.mem_cons_self ..,q⟩
    .rcases i2 y hy with h | ⟨h,h'⟩
     .exact .inl h
     .exact .inr ⟨List.mem_cons_of_mem _ h,h'⟩
theorem IsSums.got{l out:List RW}(h:IsSums l out)(r:RW):((getK out r).map RW.u).getD 0=sumU r l/\((getK out r).map RW.tv).getD 0=sumT r l:=by
 cases q:getK out r with
 |some e=>
  obtain⟨h1,h2⟩:=wxl q;obtain⟨_,h3,h4⟩:=h.sums e h1;exact⟨h3.trans (wiu h2 l),h4.trans (wiv h2 l)⟩
 |none=>
  have hn:∀x∈l,wat r x=false:=λx hx=>by
   obtain⟨e,he,hs⟩:=h.all x hx
   cases q':wat r x with
   |false=>rfl
   |true=>have:=wxm q e he;rw[wd2 (wgg q' hs)] at this;cases this
  exact⟨(wuj hn).symm,(wuk hn).symm⟩
theorem IsSums.step{l out:List RW}(h:IsSums l out)(r:RW):IsSums (l++[r]) (setK out (addK out r)):=by
 obtain⟨p1,p2⟩:=wuv (addK out r) h.parts;obtain⟨g1,g2⟩:=h.got r;have hs:=wtn out r;refine⟨p1,λy hy=>?_,λx hx=>?_⟩
 .rcases p2 y hy with rfl | ⟨h1,h2⟩
  .refine⟨⟨r,by simp,hs⟩,?_,?_⟩
   .rw[wqt,wiu hs,wiu hs,sumU,sumU,wi0];show r.u+_=_;rw[g1];show r.u+_=_+(r.u+0);omega
   .rw[wqv,wiv hs,wiv hs,sumT,sumT,wi0];show r.tv+_=_;rw[g2];show r.tv+_=_+(r.tv+0);omega
  .obtain⟨⟨x,hx,hxs⟩,e1,e2⟩:=h.sums y h1;have hne:wat y r=false:=by
    cases q:wat y r with
    |false=>rfl
    |true=>rw[wgg q (wd2 hs)] at h2;cases h2
   refine⟨⟨x,by simp[hx],hxs⟩,?_,?_⟩
   .rw[wqt,sumU,sumU,hne];show _=_+(0+0);omega
   .rw[wqv,sumT,sumT,hne];show _=_+(0+0);omega
 .rcases List.mem_append.1 hx with hx | hx
  .obtain⟨e,he,hes⟩:=h.all x hx
   cases q:wat e (addK out r) with
   |true=>exact⟨_,wq3 _ _,wgg hes q⟩
   |false=>exact⟨e,wuw he q,hes⟩
  .obtain rfl:x=r:=by simpa using hx
   exact⟨_,wq3 _ _,wd2 hs⟩
def wa3(g:Nat->RW):Nat->List RW
 |0=>[]
 |k+1=>setK (wa3 g k) (addK (wa3 g k) (g k))
theorem wg5(g:Nat->RW):∀k,IsSums ((List.range k).map g) (wa3 g k)
 |0=>.nil
 |k+1=>by
  rw[List.range_succ,List.map_append];exact(wg5 g k).step (g k)
theorem wqs{B:Int}(hB:0<=B)(x:RW):∀ {l:List RW},(∀r∈l,0<=r.u/\r.u<=B)->0<=sumU x l/\sumU x l<=B * l.length
 |[],_=>by simp[sumU]
 |r::l,h=>by
  have ih:=wqs hB x (l:=l) λr' hr=>h r' (List.mem_cons_of_mem _ hr);have h0:=h r (List.mem_cons_self ..);rw[sumU,List.length_cons];have e:B * ((l.length+1:Nat):Int)=B * l.length+B:=by rw[Int.natCast_add,Int.mul_add];simp
  rw[e]
  cases wat x r with
  |true=>show 0<=r.u+_/\r.u+_<=_;omega
  |false=>show 0<=0+_/\0+_<=_;omega
theorem wqu{B:Int}(hB:0<=B)(x:RW):∀ {l:List RW},(∀r∈l,0<=r.tv/\r.tv<=B)->0<=sumT x l/\sumT x l<=B * l.length
 |[],_=>by simp[sumT]
 |r::l,h=>by
  have ih:=wqu hB x (l:=l) λr' hr=>h r' (List.mem_cons_of_mem _ hr);have h0:=h r (List.mem_cons_self ..);rw[sumT,List.length_cons];have e:B * ((l.length+1:Nat):Int)=B * l.length+B:=by rw[Int.natCast_add,Int.mul_add];simp
  rw[e]
  cases wat x r with
  |true=>show 0<=r.tv+_/\r.tv+_<=_;omega
  |false=>show 0<=0+_/\0+_<=_;omega
theorem Asc.insert{α:Type}{c:α->α->Int}{a b:List α}{x:α}(h:Asc c (a++b))(ha:∀y∈a,c y x<0)(hb:∀y∈b,c x y<0):Asc c (a++x::b):=by
 obtain⟨h1,h2,h3⟩:=List.pairwise_append.1 h;refine List.pairwise_append.2 ⟨h1,List.pairwise_cons.2 ⟨hb,h2⟩,λy hy z hz=>?_⟩
 rcases List.mem_cons.1 hz with rfl | hz
 .exact ha y hy
 .exact h3 y hy z hz
def wld(cs:List AV)(j:Nat):Bool:=match cs[j]? with
 |some .nil=>true
 |_=>false
def ownNilC(r j t sz:Nat)(s:St):St:=match lk s.O r with
 |some (.cells cs ct)=>match wld cs j with
  |true=>⟨s.T,(s.nx,.row t sz 0 (λ_=>[]) false)::(r,.cells (cs.set j (.own s.nx 0)) ct)::rm r s.O,s.nx+1,[]⟩
  |false=>s
 |_=>s
theorem RepS.ownNilC{C:Ctx}{E:Ent}{N:Nat}{s:St}{bs:Nat->Option Hd}{a:Act}{w:World}(r0 j0 t sz:Nat)(h:RepS C E N s bs a w):∃bs',RepS C E N (ownNilC r0 j0 t sz s) bs' a w:=by
 unfold Eng.ownNilC;split
 .rename_i cs ct hd;split
  .rename_i hnil;have hnil:cs[j0]?=some .nil:=by
    unfold wld at hnil;split at hnil
    .assumption
    .cases hnil
   obtain⟨T,O,nx,dec⟩:=s;obtain⟨⟨hF,hW⟩,hnx,hm⟩:=h;have hn:=hnx nx (lR7 _);have hb0:bs nx=none:=hn.2;have hO0:lk O nx=none:=hn.1;have hd:lk O r0=some (.cells cs ct):=hd;have hne0:r0≠nx:=λe=>by subst e;rw[hO0] at hd;cases hd
   let bs':=up bs nx .nil
   let O':List (Nat×AObj):=(nx,AObj.row t sz 0 (λ_=>[]) false)::(r0,.cells (cs.set j0 (.own nx 0)) ct)::rm r0 O
   have hbs:∀r x,bs r=some x->bs' r=some x:=λr x hx=>by
    have:nx≠r:=λe=>by subst e;rw[hb0] at hx;cases hx
    show up bs nx .nil r=some x;rw[wav _ _ _ this];exact hx
   have hbk:∀r b c,bs' r=some (.blk b c)->bs r=some (.blk b c):=λr b c hx=>by
    by_cases hr:nx=r
    .subst hr;have:up bs nx .nil nx=some (.blk b c):=hx;rw[waz] at this;cases this
    .have:up bs nx .nil r=some (.blk b c):=hx
     rwa [wav _ _ _ hr] at this
   have hlk:∀r o,lk O' r=some o->(r=nx/\o= .row t sz 0 (λ_=>[]) false)∨(r≠nx/\r=r0/\o= .cells (cs.set j0 (.own nx 0)) ct)∨(r≠nx/\lk O r=some o):=λr o ho=>by
    have ho:lk ((nx,AObj.row t sz 0 (λ_=>[]) false)::(r0,.cells (cs.set j0 (.own nx 0)) ct)::rm r0 O) r=some o:=ho;rw[wax] at ho;split at ho
    .rename_i e;have e':nx=r:=e;simp only[sI7] at ho;exact .inl ⟨e'.symm,ho.symm⟩
    .rename_i e;rw[wez,wax] at ho;split at ho
     .rename_i e2;have e2':r0=r:=e2;simp only[sI7] at ho;exact .inr (.inl ⟨λe'=>e e'.symm,e2'.symm,ho.symm⟩)
     .exact .inr (.inr ⟨λe'=>e e'.symm,ho⟩)
   have hold:∀r o,lk O' r=some o->r≠nx->∃o',lk O r=some o'/\o'.mut=o.mut:=λr o ho hr=>by
    rcases hlk r o ho with⟨h1,_⟩ | ⟨_,rfl,rfl⟩ | ⟨_,h2⟩
    .exact absurd h1 hr
    .exact⟨_,hd,rfl⟩
    .exact⟨_,h2,rfl⟩
   have hmb:∀b,mutB (lk O') bs' b->mutB (lk O) bs b:=by
    rintro b ⟨r,o,c,ho,hmu,hb⟩;have hr:r≠nx:=λe=>by
     subst e;have:=hbk _ _ _ hb;rw[hb0] at this;cases this
    obtain⟨o',h1,h2⟩:=hold r o ho hr;exact⟨r,o',c,h1,h2.trans hmu,hbk _ _ _ hb⟩
   have hMB:∀b,MB E (lk O') bs' b->MB E (lk O) bs b:=λb hb=>hb.imp id (hmb b);have vm:∀ {v:Value} {u:AV},V w (MB E (lk O) bs) bs v u->V w (MB E (lk O') bs') bs' v u:=λh=>
    h.step_ (λb _ hb hb'=>hb (hMB b hb')) (λ_ _ _=>rfl) (lR7 _) _ hbs
   have hS:Step w (MB E (lk O) bs) bs w (MB E (lk O') bs') bs':=⟨hbs,λb _ hb hb'=>hb (hMB b hb'),λ_ _ _=>rfl,lR7 _⟩;refine⟨bs',⟨⟨hF.1,hF.2.1,λi u hu=>?_⟩,?_⟩,λr hr=>?_,Nat.le_succ_of_le hm⟩
   .obtain⟨v,hv,hV⟩:=hF.2.2 i u hu;exact⟨v,hv,vm hV⟩
   .exact {
     obj:=λr o ho=>by
      rcases hlk r o ho with⟨rfl,rfl⟩ | ⟨hne,rfl,rfl⟩ | ⟨hne,ho⟩
      .exact .inl ⟨waz _ _ _,rfl⟩
      .obtain⟨b,c,vs,q1,q2,q3,q4,q5⟩:=hW.obj r _ hd;refine⟨b,c,vs,hbs _ _ q1,q2,by rw[List.length_set];exact q3,q4,λj v u hv hu=>?_⟩
       by_cases hj:j0=j
       .subst hj;have hlt:j0<cs.length:=by
         rcases Nat.lt_or_ge j0 cs.length with h | h
         .exact h
         .rw[List.getElem?_eq_none h] at hnil;cases hnil
        rw[List.getElem?_set_self hlt] at hu;obtain rfl:=oJ7 hu;have hV:=q5 j0 v _ hv hnil
        cases hV;exact .ownnil (waz _ _ _) rfl
       .rw[List.getElem?_set_ne hj] at hu;exact vm (q5 j v u hv hu)
      .exact(hW.obj r o ho).step hS λ_ _ _=>rfl
     sep:=λr r' o1 o2 b c c' h1 h2 m1 m2 b1 b2=>by
      have hr:r≠nx:=λe=>by
       subst e;have:=hbk _ _ _ b1;rw[hb0] at this;cases this
      have hr':r'≠nx:=λe=>by
       subst e;have:=hbk _ _ _ b2;rw[hb0] at this;cases this
      obtain⟨o1',p1,p2⟩:=hold r o1 h1 hr;obtain⟨o2',p3,p4⟩:=hold r' o2 h2 hr';exact hW.sep r r' o1' o2' b c c' p1 p3 (p2.trans m1) (p4.trans m2) (hbk _ _ _ b1) (hbk _ _ _ b2)
     out:=λb hb=>hW.out b (hmb b hb)
     frz:=λr t' sz' n f b c ho hb hM=>by
      rcases hlk r _ ho with⟨rfl,h⟩ | ⟨hne,rfl,h⟩ | ⟨hne,ho⟩
      .cases h
      .cases h
      .exact hW.frz r t' sz' n f b c ho (hbk _ _ _ hb) (hMB b hM)
     high:=λb hb=>hW.high b (hMB b hb)
     lt:=λr b c hb=>hW.lt r b c (hbk _ _ _ hb)
     outlt:=hW.outlt
     keep:=hW.keep
     old:=λb hb=>hW.old b (hmb b hb)
     size:=hW.size
     pre:=λr x hr hb=>hbs r x (hW.pre r x hr hb)
     os:=hW.os
     tape:=hW.tape
     output:=hW.output
     laid:=hW.laid
     gle:=hW.gle }
   .have hr':nx+1<=r:=hr;obtain⟨q1,q2⟩:=hnx r (show nx<=r by omega);refine⟨?_,?_⟩
    .show lk O' r=none
     cases ho:lk O' r with
     |none=>rfl
     |some o=>
      obtain⟨o',p1,_⟩:=hold r o ho (by omega);rw[q1] at p1;cases p1
    .show up bs nx .nil r=none;rw[wav _ _ _ (by omega)];exact q2
  .exact⟨bs,h⟩
 .exact⟨bs,h⟩
theorem AWP.ownNilC{C:Ctx}{m N:Nat}{c:Code}{Q:Exit->St->Prop}{s:St}(r j t sz:Nat)(h:AWP C m N c Q (Eng.ownNilC r j t sz s)):AWP C m N c Q s:=by
 intro E hE bs a w hr;obtain⟨bs',hr'⟩:=hr.ownNilC r j t sz;exact h E hE bs' a w hr'
theorem wau:∀O:List (Nat×AObj),wai O O
 |[]=>trivial
 |(r,o)::l=>by
  have ih:=wau l
  cases o
  case row=>exact⟨⟨rfl,rfl,rfl,rfl,rfl,λ_ _=>rfl⟩,ih⟩
  all_goals exact⟨rfl,ih⟩
def ownNilP(d j t sz:Nat)(s:St):St:=match lk s.T d with
 |some (.ptr r i)=>Eng.ownNilC r (i+j) t sz s
 |_=>s
theorem AWP.ownNilP{C:Ctx}{m N:Nat}{c:Code}{Q:Exit->St->Prop}{s:St}(d j t sz:Nat)(h:AWP C m N c Q (Eng.ownNilP d j t sz s)):AWP C m N c Q s:=by
 unfold Eng.ownNilP at h;split at h
 .exact AWP.ownNilC _ _ t sz h
 .exact h
def nilVC(r j sz:Nat)(f:Nat->List AV)(s:St):St:=match lk s.O r with
 |some (.cells cs ct)=>match wld cs j with
  |true=>⟨s.T,(r,.cells (cs.set j (.view sz 0 f)) ct)::rm r s.O,s.nx,[]⟩
  |false=>s
 |_=>s
theorem RepS.nilVC{C:Ctx}{E:Ent}{N:Nat}{s:St}{bs:Nat->Option Hd}{a:Act}{w:World}(r0 j0 sz:Nat)(f:Nat->List AV)(h:RepS C E N s bs a w):RepS C E N (nilVC r0 j0 sz f s) bs a w:=by
 unfold Eng.nilVC;split
 .rename_i cs ct hd;split
  .rename_i hnil;have hnil:cs[j0]?=some .nil:=by
    unfold wld at hnil;split at hnil
    .assumption
    .cases hnil
   obtain⟨T,O,nx,dec⟩:=s;obtain⟨⟨hF,hW⟩,hnx,hm⟩:=h;have hd:lk O r0=some (.cells cs ct):=hd
   let O':List (Nat×AObj):=(r0,.cells (cs.set j0 (.view sz 0 f)) ct)::rm r0 O
   have hlk:∀r o,lk O' r=some o->(r=r0/\o= .cells (cs.set j0 (.view sz 0 f)) ct)∨(r≠r0/\lk O r=some o):=λr o ho=>by
    have ho:lk ((r0,.cells (cs.set j0 (.view sz 0 f)) ct)::rm r0 O) r=some o:=ho;rw[wez,wax] at ho;split at ho
    .rename_i e;have e:r0=r:=e;exact .inl ⟨e.symm,(oJ7 ho).symm⟩
    .rename_i e;exact .inr ⟨λe'=>e e'.symm,ho⟩
   have hback:∀r o,lk O r=some o->∃o',lk O' r=some o'/\o'.mut=o.mut:=λr o ho=>by
    show ∃o',lk ((r0,.cells (cs.set j0 (.view sz 0 f)) ct)::rm r0 O) r=some o'/\o'.mut=o.mut;rw[wez,wax]
    by_cases e:r0=r
    .subst e;rw[hd] at ho;obtain rfl:=oJ7 ho;exact⟨.cells (cs.set j0 (.view sz 0 f)) ct,by simp,rfl⟩
    .exact⟨o,by simp[e,ho],rfl⟩
   have hold:∀r o,lk O' r=some o->∃o',lk O r=some o'/\o'.mut=o.mut:=λr o ho=>by
    rcases hlk r o ho with⟨rfl,rfl⟩ | ⟨_,h2⟩
    .exact⟨_,hd,rfl⟩
    .exact⟨_,h2,rfl⟩
   have hMB:MB E (lk O') bs=MB E (lk O) bs:=by
    funext b;apply propext
    constructor
    .rintro(h | ⟨r,o,c,h1,h2,h3⟩)
     .exact .inl h
     .obtain⟨o',q1,q2⟩:=hold r o h1;exact .inr ⟨r,o',c,q1,q2.trans h2,h3⟩
    .rintro(h | ⟨r,o,c,h1,h2,h3⟩)
     .exact .inl h
     .obtain⟨o',q1,q2⟩:=hback r o h1;exact .inr ⟨r,o',c,q1,q2.trans h2,h3⟩
   have hmb:∀b,mutB (lk O') bs b->mutB (lk O) bs b:=λb ⟨r,o,c,h1,h2,h3⟩=>by
    obtain⟨o',q1,q2⟩:=hold r o h1;exact⟨r,o',c,q1,q2.trans h2,h3⟩
   refine⟨⟨?_,?_⟩,λr hr=>⟨?_,(hnx r hr).2⟩,hm⟩
   .show FRep w (MB E (lk O') bs) bs N (lk T) a;rw[hMB];exact hF
   .exact {
     obj:=λr o ho=>by
      rw[hMB]
      rcases hlk r o ho with⟨rfl,rfl⟩ | ⟨hne,ho⟩
      .obtain⟨b,c,vs,q1,q2,q3,q4,q5⟩:=hW.obj r _ hd;refine⟨b,c,vs,q1,q2,by rw[List.length_set];exact q3,q4,λj v u hv hu=>?_⟩
       by_cases hj:j0=j
       .subst hj;have hlt:j0<cs.length:=by
         rcases Nat.lt_or_ge j0 cs.length with h | h
         .exact h
         .rw[List.getElem?_eq_none h] at hnil;cases hnil
        rw[List.getElem?_set_self hlt] at hu;obtain rfl:=oJ7 hu;have hV:=q5 j0 v _ hv hnil
        cases hV;exact .view ⟨0,0,none⟩ (λ_ _=>undef) (lR7 _) (zL7 _) (λh=>by omega) (λi hi=>by omega) (λi hi=>by omega) (λi hi=>by omega) (λi hi=>by omega)
       .rw[List.getElem?_set_ne hj] at hu;exact q5 j v u hv hu
      .exact hW.obj r o ho
     sep:=λr r' o1 o2 b c c' h1 h2 m1 m2 b1 b2=>by
      obtain⟨o1',p1,p2⟩:=hold r o1 h1;obtain⟨o2',p3,p4⟩:=hold r' o2 h2;exact hW.sep r r' o1' o2' b c c' p1 p3 (p2.trans m1) (p4.trans m2) b1 b2
     out:=λb hb=>hW.out b (hmb b hb)
     frz:=λr t' sz' n f b c ho hb=>by
      rw[hMB]
      rcases hlk r _ ho with⟨rfl,h⟩ | ⟨hne,ho⟩
      .cases h
      .exact hW.frz r t' sz' n f b c ho hb
     high:=λb hb=>hW.high b (by rw[← hMB];exact hb)
     lt:=hW.lt
     outlt:=hW.outlt
     keep:=hW.keep
     old:=λb hb=>hW.old b (hmb b hb)
     size:=hW.size
     pre:=hW.pre
     os:=hW.os
     tape:=hW.tape
     output:=hW.output
     laid:=hW.laid
     gle:=hW.gle }
   .show lk O' r=none
    cases ho:lk O' r with
    |none=>rfl
    |some o=>
     obtain⟨o',p1,_⟩:=hold r o ho;rw[(hnx r hr).1] at p1;cases p1
  .exact h
 .exact h
theorem AWP.nilVC{C:Ctx}{m N:Nat}{c:Code}{Q:Exit->St->Prop}{s:St}(r j sz:Nat)(f:Nat->List AV)(h:AWP C m N c Q (Eng.nilVC r j sz f s)):AWP C m N c Q s:=by
 intro E hE bs a w hr;exact h E hE bs a w (hr.nilVC r j sz f)
def nilVP(d j sz:Nat)(f:Nat->List AV)(s:St):St:=match lk s.T d with
 |some (.ptr r i)=>Eng.nilVC r (i+j) sz f s
 |_=>s
theorem AWP.nilVP{C:Ctx}{m N:Nat}{c:Code}{Q:Exit->St->Prop}{s:St}(d j sz:Nat)(f:Nat->List AV)(h:AWP C m N c Q (Eng.nilVP d j sz f s)):AWP C m N c Q s:=by
 unfold Eng.nilVP at h;split at h
 .exact AWP.nilVC _ _ sz f h
 .exact h
theorem whg{α:Type}(d:Nat):∀(l:List (Nat×α)) (i:Nat) (u:α),lk (rm d l) i=some u->d≠i/\lk l i=some u
 |[],i,u,h=>by cases h
 |(j,x)::l,i,u,h=>by
  simp only[rm] at h;split at h
  .rename_i e;have e:=Nat.eq_of_beq_eq_true e;obtain⟨h1,h2⟩:=whg d l i u h;refine⟨h1,?_⟩;rw[wax];have:¬ j=i:=λq=>h1 (e.symm.trans q);simp only[this,if_false];exact h2
  .rename_i e;rw[wax] at h ⊢;have hjd:¬ j=d:=λq=>by subst q;rw[Nat.beq_refl] at e;cases e
   by_cases q:j=i
   .simp only[q,if_true] at h ⊢;exact⟨λq'=>hjd (q.trans q'.symm),h⟩
   .simp only[q,if_false] at h ⊢;exact whg d l i u h
def frzA(r sz n:Nat)(f:Nat->List AV):AV->AV
 |.agg cs=>.agg (cs.map (frz r sz n f))
 |u=>frz r sz n f u
def frzC(r sz n:Nat)(f:Nat->List AV):AV->AV
 |.tuple cs=>.tuple (cs.map (frzA r sz n f))
 |u=>frzA r sz n f u
section
variable {C:Ctx} {E:Ent} {O:Nat->Option AObj} {bs:Nat->Option Hd} {w:World} {r:Nat} {t:TypeId} {sz n:Nat} {f:Nat->List AV}
theorem V.frz(hW:WRep C E O bs w)(hr0:O r=some (.row t sz n f true))(hf:∀i,i<n->nrefL (f i)=true):∀ {v u},V w (MB E O bs) bs v u->V w (MB E O bs) bs v (Eng.frz r sz n f u):=by
 have hrow:=hW.obj r _ hr0;intro v u hV
 cases u with
 |own r' n'=>
  simp only[Eng.frz];split
  .rename_i hc;simp only[bA7] at hc;have hr:=Nat.eq_of_beq_eq_true hc.1;have hn':n'<=n:=Nat.le_of_ble_eq_true hc.2;subst hr
   cases hV with
   |own hb hn hcm=>
    rename_i b c
    rcases hrow with⟨h1,_⟩ | ⟨b',c',vs,h1,h2,h3,h4,h5,h6,h7,h8⟩
    .rw[h1] at hb;cases hb
    .rw[h1] at hb;injection hb with hb;injection hb with e1 e2;subst e1;subst e2;have hlt:b'<w.heap.size:=(Array.getElem?_eq_some_iff.1 h2).1;have inb:∀i,i<n'->∀j,j<sz->i * sz+j<vs.size:=by
      intro i hi j hj;rw[h5];have:(i+1) * sz<=c' * sz:=Nat.mul_le_mul_right sz (by omega);rw[Nat.add_mul,Nat.one_mul] at this;omega
     refine .view ⟨b',0,none⟩ (λi j=>vs.getD (i * sz+j) undef) hn hcm (λ_=>⟨rfl,hW.frz _ t sz n f _ _ hr0 h1,hlt⟩) (λi hi=>h6 i (by omega)) (λi hi j hj=>?_) (λi hi j hj=>?_) λi hi j u hu=>?_
     .have:=inb i hi j hj;rw[Addr.add_lit,Nat.zero_add,cell_of_row w b' (i * sz+j) vs t (0,0) h2];simp[this]
     .have:=inb i hi j hj;exact h7 i (by omega) j hj _ (by simp[this])
     .have hj:j<sz:=by rw[← h6 i (by omega)];exact(List.getElem?_eq_some_iff.1 hu).1
      have:=inb i hi j hj;exact(h8 i (by omega) j _ u hj (by simp[this]) hu).free (λ_ _ h=>h) (λ_ _ _=>rfl) (lR7 _) nob (wgi (hf i (by omega)) j u hu)
   |ownnil hb hn=>
    subst hn;exact .view ⟨0,0,none⟩ (λ_ _=>undef) (lR7 _) (zL7 _) (λh=>by omega) (λi hi=>by omega) (λi hi=>by omega) (λi hi=>by omega) (λi hi=>by omega)
  .exact hV
 |_=>exact hV
theorem V.frzA(hW:WRep C E O bs w)(hr0:O r=some (.row t sz n f true))(hf:∀i,i<n->nrefL (f i)=true){v:Value}{u:AV}(h:V w (MB E O bs) bs v u):V w (MB E O bs) bs v (Eng.frzA r sz n f u):=by
 cases u with
 |agg cs=>
  cases h with
  |agg hl h1 hv=>
   refine .agg (by rw[List.length_map];exact hl) h1 λj v u hj hu=>?_;rw[List.getElem?_map] at hu;obtain⟨u0,hu0,rfl⟩:=Option.map_eq_some_iff.1 hu;exact V.frz hW hr0 hf (hv j v u0 hj hu0)
 |_=>exact V.frz hW hr0 hf h
theorem V.frzC(hW:WRep C E O bs w)(hr0:O r=some (.row t sz n f true))(hf:∀i,i<n->nrefL (f i)=true){v:Value}{u:AV}(h:V w (MB E O bs) bs v u):V w (MB E O bs) bs v (Eng.frzC r sz n f u):=by
 cases u with
 |tuple cs=>
  cases h with
  |tuple hl hv=>
   refine .tuple (by rw[List.length_map];exact hl) λj v u hj hu=>?_;rw[List.getElem?_map] at hu;obtain⟨u0,hu0,rfl⟩:=Option.map_eq_some_iff.1 hu;exact V.frzA hW hr0 hf (hv j v u0 hj hu0)
 |_=>exact V.frzA hW hr0 hf h
theorem WRep.less{O':Nat->Option AObj}(hW:WRep C E O bs w)(hO:∀k o,O' k=some o->O k=some o):Step w (MB E O bs) bs w (MB E O' bs) bs/\WRep C E O' bs w:=by
 have hmb:∀b,mutB O' bs b->mutB O bs b:=λb ⟨r,o,c,h1,h2,h3⟩=>⟨r,o,c,hO r o h1,h2,h3⟩;have hMB:∀b,MB E O' bs b->MB E O bs b:=λb hb=>hb.imp id (hmb b);have hS:Step w (MB E O bs) bs w (MB E O' bs) bs:=⟨λ_ _ h=>h,λb _ hb hb'=>hb (hMB b hb'),λ_ _ _=>rfl,lR7 _⟩
 exact⟨hS,{
  obj:=λr o ho=>(hW.obj r o (hO r o ho)).step hS λ_ _ _=>rfl
  sep:=λr r' o1 o2 b c c' h1 h2 m1 m2 b1 b2=>hW.sep r r' o1 o2 b c c' (hO _ _ h1) (hO _ _ h2) m1 m2 b1 b2
  out:=λb hb=>hW.out b (hmb b hb)
  frz:=λr t' sz' n f b c ho hb hM=>hW.frz r t' sz' n f b c (hO _ _ ho) hb (hMB b hM)
  high:=λb hb=>hW.high b (hMB b hb)
  lt:=hW.lt
  outlt:=hW.outlt
  keep:=hW.keep
  old:=λb hb=>hW.old b (hmb b hb)
  size:=hW.size
  pre:=hW.pre
  os:=hW.os
  tape:=hW.tape
  output:=hW.output
  laid:=hW.laid
  gle:=hW.gle }⟩
end
def nilv(sz:Nat)(f:Nat->List AV):AV->AV
 |.nil=>.view sz 0 f
 |u=>u
def nilvA(sz:Nat)(f:Nat->List AV):AV->AV
 |.agg cs=>.agg (cs.map (nilv sz f))
 |u=>nilv sz f u
def nilvC(sz:Nat)(f:Nat->List AV):AV->AV
 |.tuple cs=>.tuple (cs.map (nilvA sz f))
 |u=>nilvA sz f u
section
variable {w:World} {M:Nat->Prop} {bs:Nat->Option Hd} {sz:Nat} {f:Nat->List AV}
theorem V.nilv{v:Value}{u:AV}(h:V w M bs v u):V w M bs v (Eng.nilv sz f u):=by
 cases u with
 |nil=>cases h;exact .view ⟨0,0,none⟩ (λ_ _=>undef) (lR7 _) (zL7 _) (λh=>by omega) (λi hi=>by omega) (λi hi=>by omega) (λi hi=>by omega) (λi hi=>by omega)
 |_=>exact h
theorem V.nilvA{v:Value}{u:AV}(h:V w M bs v u):V w M bs v (Eng.nilvA sz f u):=by
 cases u with
 |agg cs=>
  cases h with
  |agg hl h1 hv=>
   refine .agg (by rw[List.length_map];exact hl) h1 λj v u hj hu=>?_;rw[List.getElem?_map] at hu;obtain⟨u0,hu0,rfl⟩:=Option.map_eq_some_iff.1 hu;exact V.nilv (hv j v u0 hj hu0)
 |_=>exact V.nilv (sz:=sz) (f:=f) h
theorem V.nilvC{v:Value}{u:AV}(h:V w M bs v u):V w M bs v (Eng.nilvC sz f u):=by
 cases u with
 |tuple cs=>
  cases h with
  |tuple hl hv=>
   refine .tuple (by rw[List.length_map];exact hl) λj v u hj hu=>?_;rw[List.getElem?_map] at hu;obtain⟨u0,hu0,rfl⟩:=Option.map_eq_some_iff.1 hu;exact V.nilvA (hv j v u0 hj hu0)
 |_=>exact V.nilvA (sz:=sz) (f:=f) h
end
theorem wal.nilv{C:Ctx}{g:FuncId}{args:List AV}{objs:List AObj}{R:AV->List (Nat×AObj)->Prop}(sz:Nat)(f:Nat->List AV)(h:wal C g args objs λu O=>R (nilvC sz f u) O):wal C g args objs R:=by
 refine⟨h.1,λE bs w cargs h1 h2 h3 h4 h5 h6 h7=>?_⟩;refine(h.2 E bs w cargs h1 h2 h3 h4 h5 h6 h7).mono ?_;rintro e w' ⟨v,u,O',bs',r1,r2,r3,r4,r5⟩;exact⟨v,_,O',bs',r1,r2,r3,V.nilvC r4,r5⟩
theorem lkL_set{objs:List AObj}{r:Nat}{x:AObj}(h:r<objs.length):lkL (objs.set r x)=up (lkL objs) r x:=by
 funext k;unfold lkL
 by_cases e:r=k
 .subst e;rw[waz,List.getElem?_set_self h]
 .rw[wav _ _ _ e,List.getElem?_set_ne e]
theorem wal.nilArg{C:Ctx}{g:FuncId}{args:List AV}{objs:List AObj}{R:AV->List (Nat×AObj)->Prop}(sz:Nat)(f:Nat->List AV)(h:wal C g (args.map (nilvA sz f)) objs R):wal C g args objs R:=by
 refine⟨h.1,λE bs w cargs h1 h2 h3 h4 h5 h6 h7=>?_⟩;refine h.2 E bs w cargs h1 h2 h3 h4 h5 (by rw[List.length_map];exact h6) λj v u hv hu=>?_;rw[List.getElem?_map] at hu;obtain⟨u0,hu0,rfl⟩:=Option.map_eq_some_iff.1 hu;exact V.nilvA (h7 j v u0 hv hu0)
def frzT(r sz n:Nat)(g:Nat->List AV):List (Nat×AV)->List (Nat×AV)
 |[]=>[]
 |p::l=>(p.1,frzC r sz n g p.2)::frzT r sz n g l
def wlk(r:Nat)(s:St):Prop:=match lk s.O r with
 |some (.row _ _ n g _)=>∀i,i<n->nrefL (g i)=true
 |_=>True
theorem wwv{r sz n:Nat}{g:Nat->List AV}:∀ {T:List (Nat×AV)} {i:Nat} {u:AV},lk (frzT r sz n g T) i=some u->∃u0,lk T i=some u0/\u=frzC r sz n g u0
 |[],i,u,h=>by cases h
 |p::T,i,u,h=>by
  rw[frzT,wax] at h;rw[wax]
  by_cases e:p.1=i
  .rw[if_pos e] at h ⊢;exact⟨_,rfl,(oJ7 h).symm⟩
  .rw[if_neg e] at h ⊢;exact wwv h
def frzO(r:Nat)(R:AV->List (Nat×AObj)->Prop)(u:AV)(O:List (Nat×AObj)):Prop:=match lk O r with
 |some (.row _ sz n g _)=>(∀i,i<n->nrefL (g i)=true)/\R (frzC r sz n g u) (rm r O)
 |_=>R u O
theorem wal.frzO{C:Ctx}{f:FuncId}{args:List AV}{objs:List AObj}{R:AV->List (Nat×AObj)->Prop}(r:Nat)(h:wal C f args objs (Eng.frzO r R)):wal C f args objs R:=by
 refine⟨h.1,λE bs w cargs h1 h2 h3 h4 h5 h6 h7=>?_⟩;refine(h.2 E bs w cargs h1 h2 h3 h4 h5 h6 h7).mono ?_;rintro e w' ⟨v,u,O',bs',r1,hR0,r3,r4,r5⟩;unfold Eng.frzO at hR0;split at hR0
 .rename_i t sz n g fr hO;obtain⟨hg,hR⟩:=hR0;obtain⟨hS,hW1⟩:=r3.freeze hO;have hV:=V.frzC hW1 (waz _ _ _) hg (r4.step hS);obtain⟨hS2,hW2⟩:=hW1.less (O':=lk (rm r O')) λk o hk=>by
   obtain⟨q1,q2⟩:=whg r O' k o hk;rw[wav _ _ _ q1];exact q2
  refine⟨v,_,rm r O',bs',r1,hR,hW2,hV.step hS2,λk hk=>⟨?_,(r5 k hk).2⟩⟩
  cases hx:lk (rm r O') k with
  |none=>rfl
  |some o=>
   have:=(whg r O' k o hx).2;rw[(r5 k hk).1] at this;cases this
 .exact⟨v,u,O',bs',r1,hR0,r3,r4,r5⟩
def regP(G:Env)(x:Code)(Fe:List Nat)(Q:Exit->St->Prop)(s:St):Prop:=wpC G x (Eng.canQ G.te G.m Fe [] Q) s
theorem waj.reg{C:Ctx}{te:TE}(hte:Prg C te){m N:Nat}{x:Code}{s S:St}{Q:Exit->St->Prop}(calls:List (Nat×CSpec))(fuel:Nat)(hc:wde C calls)(F Fe:List Nat)
  (h0:canonIs te m F s S) (h:regP ⟨te,calls,[],m,N,fuel⟩ x Fe Q S) (hS:wch S.O True):AWP C m N x Q s:=by
 have hG:EnvOK C ⟨te,calls,[],m,N,fuel⟩:=⟨hte.ok,hte.one,hc⟩;exact AWP.canonIs F h0 (wdt hG x _ _ (by rw[wd7];intro p hp;simp at hp) h).canQ hS
theorem WRep.rowEq{C:Ctx}{E:Ent}{O:Nat->Option AObj}{bs:Nat->Option Hd}{w:World}(hW:WRep C E O bs w){r0:Nat}{t sz n:Nat}{f f':Nat->List AV}{fr:Bool}(hd:O r0=some (.row t sz n f fr))(hf:∀i,i<n->f' i=f i):
  MB E (up O r0 (.row t sz n f' fr)) bs=MB E O bs/\WRep C E (up O r0 (.row t sz n f' fr)) bs w:=by
 have hlk:∀r o,up O r0 (.row t sz n f' fr) r=some o->(r=r0/\o= .row t sz n f' fr)∨(r≠r0/\O r=some o):=λr o ho=>by
  by_cases e:r0=r
  .subst e;rw[waz] at ho;exact .inl ⟨rfl,(oJ7 ho).symm⟩
  .rw[wav _ _ _ e] at ho;exact .inr ⟨λe'=>e e'.symm,ho⟩
 have hback:∀r o,O r=some o->∃o',up O r0 (.row t sz n f' fr) r=some o'/\o'.mut=o.mut:=λr o ho=>by
  by_cases e:r0=r
  .subst e;rw[hd] at ho;obtain rfl:=oJ7 ho;exact⟨_,waz _ _ _,rfl⟩
  .exact⟨o,by rw[wav _ _ _ e];exact ho,rfl⟩
 have hold:∀r o,up O r0 (.row t sz n f' fr) r=some o->∃o',O r=some o'/\o'.mut=o.mut:=λr o ho=>by
  rcases hlk r o ho with⟨rfl,rfl⟩ | ⟨_,h2⟩
  .exact⟨_,hd,rfl⟩
  .exact⟨_,h2,rfl⟩
 have hMB:MB E (up O r0 (.row t sz n f' fr)) bs=MB E O bs:=by
  funext b;apply propext
  constructor
  .rintro(h | ⟨r,o,c,h1,h2,h3⟩)
   .exact .inl h
   .obtain⟨o',q1,q2⟩:=hold r o h1;exact .inr ⟨r,o',c,q1,q2.trans h2,h3⟩
  .rintro(h | ⟨r,o,c,h1,h2,h3⟩)
   .exact .inl h
   .obtain⟨o',q1,q2⟩:=hback r o h1;exact .inr ⟨r,o',c,q1,q2.trans h2,h3⟩
 have hmb:∀b,mutB (up O r0 (.row t sz n f' fr)) bs b->mutB O bs b:=λb ⟨r,o,c,h1,h2,h3⟩=>by
  obtain⟨o',q1,q2⟩:=hold r o h1;exact⟨r,o',c,q1,q2.trans h2,h3⟩
 refine⟨hMB,?_⟩
 exact {
  obj:=λr o ho=>by
   rw[hMB]
   rcases hlk r o ho with⟨rfl,rfl⟩ | ⟨hne,ho⟩
   .rcases hW.obj r _ hd with h | ⟨b,c,vs,h1,h2,h3,h4,h5,h6,h7,h8⟩
    .exact .inl h
    .exact .inr ⟨b,c,vs,h1,h2,h3,h4,h5,λi hi=>by rw[hf i hi];exact h6 i hi,h7,λi hi j v u hj hv hu=>h8 i hi j v u hj hv (by rw[← hf i hi];exact hu)⟩
   .exact hW.obj r o ho
  sep:=λr r' o1 o2 b c c' h1 h2 m1 m2 b1 b2=>by
   obtain⟨o1',p1,p2⟩:=hold r o1 h1;obtain⟨o2',p3,p4⟩:=hold r' o2 h2;exact hW.sep r r' o1' o2' b c c' p1 p3 (p2.trans m1) (p4.trans m2) b1 b2
  out:=λb hb=>hW.out b (hmb b hb)
  frz:=λr t' sz' n' f2 b c ho hb=>by
   rw[hMB]
   rcases hlk r _ ho with⟨rfl,h⟩ | ⟨hne,ho⟩
   .injection h with e1 e2 e3 e4 e5;subst e5;exact hW.frz r _ _ _ _ b c hd hb
   .exact hW.frz r t' sz' n' f2 b c ho hb
  high:=λb hb=>hW.high b (by rw[← hMB];exact hb)
  lt:=hW.lt
  outlt:=hW.outlt
  keep:=hW.keep
  old:=λb hb=>hW.old b (hmb b hb)
  size:=hW.size
  pre:=hW.pre
  os:=hW.os
  tape:=hW.tape
  output:=hW.output
  laid:=hW.laid
  gle:=hW.gle }
theorem wal.rowEq{C:Ctx}{g:FuncId}{args:List AV}{objs:List AObj}{R:AV->List (Nat×AObj)->Prop}(r:Nat){t sz n:Nat}{f f':Nat->List AV}{fr:Bool}(hr:objs[r]?=some (.row t sz n f fr))(hf:∀i,i<n->f' i=f i)
  (h:wal C g args (objs.set r (.row t sz n f' fr)) R):wal C g args objs R:=by
 have hlt:r<objs.length:=(List.getElem?_eq_some_iff.1 hr).1;refine⟨h.1,λE bs w cargs h1 h2 h3 h4 h5 h6 h7=>?_⟩;obtain⟨q1,q2⟩:=h4.rowEq (show lkL objs r=some (.row t sz n f fr) from hr) hf;rw[← lkL_set hlt] at q1 q2;have:=h.2 E bs w cargs h1 (by rw[List.length_set];exact h2) h3 q2 (by rw[List.length_set];exact h5) h6 (by rw[q1];exact h7);rw[List.length_set] at this;exact this
theorem ADet.give{C:Ctx}{g:FuncId}{args args':List AV}{U:AV}{t sz n:Nat}{f:Nat->List AV}{fr:Bool}(h:ADet C g args' [] U [])(ha:args.map (frzC 0 sz n f)=args')(hn:nrefL args'=true)(hU:nref U=true)(hf:∀i,i<n->nrefL (f i)=true):
  ADet C g args [.row t sz n f fr] U []:=by
 refine⟨h.1,λE bs w cargs h1 h2 h3 h4 h5 h6 h7=>?_⟩;obtain⟨hS,hW1⟩:=h4.freeze (show lkL [.row t sz n f fr] 0=some (.row t sz n f fr) from rfl);have no:∀r,lkL [] r=none:=λr=>by cases r<;>rfl
 have nm:∀b',¬ mutB (lkL []) nob b':=by
  rintro b' ⟨r,o,c,ho,_⟩;rw[no r] at ho;cases ho
 have hout:∀b,E.outer b->b<w.heap.size:=λb hb=>Nat.lt_of_lt_of_le (h4.outlt b hb) h4.size
 have hw:WRep C ⟨w,0,nob,λ_=>False,E.outer⟩ (lkL []) nob w:={
  obj:=λr o ho=>by rw[no r] at ho;cases ho
  sep:=λr r' o o' b c c' ho=>by rw[no r] at ho;cases ho
  out:=λb hb=>absurd hb (nm b)
  frz:=λr t sz n f b c ho=>by rw[no r] at ho;cases ho
  high:=λb hb=>by
   rcases hb with hb | hb
   .exact h4.high b (.inl hb)
   .exact absurd hb (nm b)
  lt:=λr b c hb=>by simp[nob] at hb
  outlt:=hout
  keep:=λb _ _=>rfl
  old:=λb hb=>absurd hb (nm b)
  size:=lR7 _
  pre:=λr x hr=>absurd hr (nZ7 r)
  os:=rfl
  tape:=.refl _ _
  output:=rfl
  laid:=h4.laid
  gle:=Nat.le_trans h4.gle h4.size }
 have hlen:cargs.length=args'.length:=by rw[← ha,List.length_map];exact h6
 refine(h.2 ⟨w,0,nob,λ_=>False,E.outer⟩ nob w cargs rfl rfl rfl hw (λ_ _=>rfl) hlen (λj v u hv hu=>?_)).mono ?_
 .rw[← ha,List.getElem?_map] at hu;obtain⟨u0,hu0,rfl⟩:=Option.map_eq_some_iff.1 hu;have hV:=V.frzC hW1 (waz _ _ _) hf ((h7 j v u0 hv hu0).step hS);refine hV.free (λb _ hb hb'=>?_) (λ_ _ _=>rfl) (lR7 _) nob (wgi hn j _ (by rw[← ha,List.getElem?_map,hu0];rfl))
  rcases hb' with hb' | hb'
  .exact hb (.inl hb')
  .exact nm b hb'
 .rintro e w' ⟨v,u,O',bs',rfl,⟨rfl,rfl⟩,hw',hV',_⟩;have nl:∀r,lk ([]:List (Nat×AObj)) r=none:=λr=>rfl;have nm':∀(bs:Nat->Option Hd) b',¬ mutB (lk []) bs b':=by
   rintro bs b' ⟨r,o,c,ho,_⟩
   cases ho
  subst h1;refine⟨v,u,[],bs,rfl,⟨rfl,rfl⟩,?_,hV'.free (λb _ hb hb'=>?_) (λ_ _ _=>rfl) (lR7 _) bs hU,λr hr=>⟨rfl,h5 r (by show 1<=r;have:1+16<=r:=hr;omega)⟩⟩
  .exact {
    obj:=λr o ho=>by cases ho
    sep:=λr r' o o' b c c' ho=>by cases ho
    out:=λb hb=>absurd hb (nm' _ b)
    frz:=λr t sz n f b c ho=>by cases ho
    high:=λb hb=>by
     rcases hb with hb | hb
     .exact h4.high b (.inl hb)
     .exact absurd hb (nm' _ b)
    lt:=λr b c hb=>Nat.lt_of_lt_of_le (h4.lt r b c hb) hw'.size
    outlt:=h4.outlt
    keep:=λb hb _=>hw'.keep b hb (λh=>h)
    old:=λb hb=>absurd hb (nm' _ b)
    size:=hw'.size
    pre:=λr x hr hb=>by rw[h3] at hb;exact hb
    os:=hw'.os
    tape:=hw'.tape
    output:=hw'.output
    laid:=hw'.laid
    gle:=h4.gle }
  .rcases hb' with hb' | hb'
   .exact hb (.inl hb')
   .exact nm' _ b hb'
def wel:Spec
 |[.str a,.str b],[]=>some (.q (cmpS a b),[],True)
 |_,_=>none
def wf1:Spec
 |[.int .i64 _],[]=>some (.bool false,[],True)
 |_,_=>none
def wc5:Spec
 |[.int .i64 a,.int .i64 b],[]=>some (.q (cmpI a b),[],True)
 |_,_=>none
def orN(v:Nat->Int):Nat->Int
 |0=>0
 |k+1=>bif decide (orN v k=0) then v k else orN v k
def S_or:Spec
 |[.own 0 n],[.row t 1 m f fr]=>some (.q (orN (vInt f) n),[(0,.row 3 1 n f false)],t=3/\fr=false/\n=m/\n<=100/\∀i,i<n->f i=wac (vInt f) i)
 |_,_=>none
def wne(v:Nat->Int)(n k:Nat):St:=⟨[(3,.q 0),(6,.own 0 n),(7,.q n),(8,.q k)],[(0,.row 3 1 n (wac v) false)],1,[]⟩
def L_or(v:Nat->Int)(n:Nat):war:=λst Q=>canonIs te 1 [3,6,7,8] st (wne v n 0)/\n<=100/\
 wab (decide (orN v n=0)) (Q (.exit 0) ⟨[(3,.q 0)],[(0,.row 3 1 n (wac v) false)],1,[]⟩) (Q .ret ⟨[(2,.q (orN v n))],[(0,.row 3 1 n (wac v) false)],1,[]⟩)
def S_rcmp:Spec
 |[.agg [.str o,.str p,.int .i64 per,.int .i64 u,.int .i64 tv],.agg [.str o',.str p',.int .i64 per',.int .i64 u',.int .i64 tv']],[]=>some (.q (keyC ⟨o,p,per,u,tv⟩ ⟨o',p',per',u',tv'⟩),[],True)
 |_,_=>none
def wae(g:Nat->RW)(i:Nat):List AV:=[.str (g i).o,.str (g i).p,.q (g i).per,.q (g i).u,.q (g i).tv]
def rwOf(f:Nat->List AV)(i:Nat):RW:=match f i with
 |[.str o,.str p,.int .i64 per,.int .i64 u,.int .i64 tv]=>⟨o,p,per,u,tv⟩
 |_=>default
def lst{α:Type}(g:Nat->α)(n:Nat):List α:=(List.range n).map g
def srtR(l:List RW):List RW:=l.mergeSort λa b=>decide (keyC a b<=0)
def wos:wbp
 |[.own 0 n,.func 147 []],[.row t 5 m f fr],R=>t=61/\fr=false/\n=m/\n<=1000000/\f=wae (rwOf f)/\(lst (rwOf f) n).Pairwise (λa b=>wat a b=false)/\
   ∀h:Nat->RW,lst h n=srtR (lst (rwOf f) n)->R (.tuple []) [(0,.row 61 5 n (wae h) false)]
 |_,_,_=>False
end Go.Eng
namespace Go.Eng
open Go.Proofs Go.RowKit
variable {H:Type} {enc:TypeId×Value->H} {W:World}
theorem undR:Tryz.prog.underlying 61=some (.struct (fsOf 61)):=by kernel_rfl
theorem undRs:Tryz.prog.underlying 46=some (.slice 61):=by kernel_rfl
theorem cR:Tryz.prog.cellsOf 61=5:=by kernel_rfl
theorem list5{l:List Value}(h:l.length=5):∃a b c d e,l=[a,b,c,d,e]:=by
 match l,h with
 |[a,b,c,d,e],_=>exact⟨a,b,c,d,e,rfl⟩
end Go.Eng
namespace Go.Eng
def ordM(a b:MG):Int:=orL [cmpS a.dev b.dev,cmpI a.seq b.seq,cmpI a.kind b.kind,cmpS a.v.o b.v.o,cmpS a.v.p b.v.p,cmpI a.v.per b.v.per,cmpI a.v.day b.v.day,cmpI a.v.st b.v.st,cmpI a.v.pr b.v.pr,cmpS a.v.rep b.v.rep,
 cmpS a.d.o b.d.o,cmpS a.d.p b.d.p,cmpI a.d.per b.d.per,cmpS a.d.dev b.d.dev,cmpI a.d.num b.d.num]
theorem wdl:PreC ordM:=
 (wc9.comap MG.dev).or ((wdo.comap MG.seq).or ((wdo.comap MG.kind).or ((wc9.comap λm:MG=>m.v.o).or ((wc9.comap λm:MG=>m.v.p).or ((wdo.comap λm:MG=>m.v.per).or ((wdo.comap λm:MG=>m.v.day).or
 ((wdo.comap λm:MG=>m.v.st).or ((wdo.comap λm:MG=>m.v.pr).or ((wc9.comap λm:MG=>m.v.rep).or ((wc9.comap λm:MG=>m.d.o).or ((wc9.comap λm:MG=>m.d.p).or ((wdo.comap λm:MG=>m.d.per).or
 ((wc9.comap λm:MG=>m.d.dev).or ((wdo.comap λm:MG=>m.d.num).or .nil))))))))))))))
theorem wks{a b:MG}:ordM a b=0↔a=b:=by
 simp only[ordM,wi8,wcx,ws6,show orL []=0 from rfl,and_true]
 constructor
 .rintro⟨h1,h2,h3,h4,h5,h6,h7,h8,h9,h10,h11,h12,h13,h14,h15⟩;obtain⟨a1,a2,a3,⟨b1,b2,b3,b4,b5,b6,b7⟩,c1,c2,c3,c4,c5⟩:=a;obtain⟨a1',a2',a3',⟨b1',b2',b3',b4',b5',b6',b7'⟩,c1',c2',c3',c4',c5'⟩:=b;simp only at h1 h2 h3 h4 h5 h6 h7 h8 h9 h10 h11 h12 h13 h14 h15;subst h1;subst h2;subst h3;subst h4;subst h5;subst h6;subst h7;subst h8;subst h9;subst h10;subst h11;subst h12;subst h13;subst h14;subst h15;rfl
 .rintro rfl;simp
def insM:List MG->MG->List MG
 |[],m=>[m]
 |x::l,m=>bif decide (ordM m x<0) then m::x::l else bif decide (ordM m x=0) then x::l else x::insM l m
theorem wjj:∀ {l:List MG} {m y:MG},y∈insM l m↔y=m∨y∈l
 |[],m,y=>by simp[insM]
 |x::l,m,y=>by
  rw[insM]
  by_cases h:ordM m x<0
  .rw[decide_eq_true h];simp
  .rw[decide_eq_false h]
   by_cases h':ordM m x=0
   .rw[decide_eq_true h'];have:=wks.1 h';subst this;simp
   .rw[decide_eq_false h'];simp only[cond_false,List.mem_cons,wjj (l:=l)];grind
theorem wsh:∀ {l:List MG} (m:MG),Asc ordM l->Asc ordM (insM l m)
 |[],m,_=>by simp[insM,Asc]
 |x::l,m,h=>by
  obtain⟨h1,h2⟩:=List.pairwise_cons.1 h;rw[insM]
  by_cases q:ordM m x<0
  .rw[decide_eq_true q];refine List.pairwise_cons.2 ⟨λy hy=>?_,h⟩
   rcases List.mem_cons.1 hy with rfl | hy
   .exact q
   .exact wdl.lt_trans q (h1 y hy)
  .rw[decide_eq_false q]
   by_cases q':ordM m x=0
   .rw[decide_eq_true q'];exact h
   .rw[decide_eq_false q'];refine List.pairwise_cons.2 ⟨λy hy=>?_,wsh m h2⟩
    rcases wjj.1 hy with rfl | hy
    .have:=wdl.neg x y;have:=wdl.neg y x;omega
    .exact h1 y hy
def okM(m:MG):Bool:=decide (msgF m=0)
def mrgF(l:List MG):List MG:=(l.filter okM).foldl insM []
theorem wst:∀(l acc:List MG),Asc ordM acc->Asc ordM (l.foldl insM acc)/\∀y,y∈l.foldl insM acc↔y∈acc∨y∈l
 |[],acc,h=>⟨h,λy=>by simp⟩
 |x::l,acc,h=>by
  obtain⟨h1,h2⟩:=wst l (insM acc x) (wsh x h);refine⟨h1,λy=>?_⟩;rw[List.foldl_cons,h2,wjj,List.mem_cons];grind
theorem wwc(l:List MG):Asc ordM (mrgF l):=(wst _ [] .nil).1
theorem w5y{l:List MG}{m:MG}:m∈mrgF l↔m∈l/\msgF m=0:=by
 rw[mrgF,(wst _ [] .nil).2];simp[okM]
theorem w5w{l out:List MG}(h:Asc ordM out)(hm:∀m,m∈out↔m∈l/\msgF m=0):out=mrgF l:=
 Asc.uniq wdl h (wwc l) λm=>by rw[hm,w5y]
theorem w5x(l:List MG)(m:MG):mrgF (l++[m])=bif okM m then insM (mrgF l) m else mrgF l:=by
 unfold mrgF;rw[List.filter_append]
 cases h:okM m<;>simp[h]
theorem ww9:∀(l:List MG) (m:MG),(insM l m).length<=l.length+1
 |[],m=>by simp[insM]
 |x::l,m=>by
  rw[insM]
  cases decide (ordM m x<0) with
  |true=>simp
  |false=>
   cases decide (ordM m x=0) with
   |true=>simp
   |false=>have:=ww9 l m;simpa using this
theorem wxu:∀(l acc:List MG),(l.foldl insM acc).length<=acc.length+l.length
 |[],acc=>by simp
 |x::l,acc=>by
  rw[List.foldl_cons,List.length_cons];have:=wxu l (insM acc x);have:=ww9 acc x;omega
theorem wwb(l:List MG):(mrgF l).length<=l.length:=by
 have:=wxu (l.filter okM) [];have h2:=List.length_filter_le okM l;unfold mrgF;simp at this;omega
def mgC(m:MG):List AV:=[.str m.dev,.q m.seq,.q m.kind,.str m.v.o,.str m.v.p,.q m.v.per,.q m.v.day,.q m.v.st,.q m.v.pr,.str m.v.rep,.str m.d.o,.str m.d.p,.q m.d.per,.str m.d.dev,.q m.d.num]
def wad(g:Nat->MG)(i:Nat):List AV:=[.str (g i).dev,.q (g i).seq,.q (g i).kind,.str (g i).v.o,.str (g i).v.p,.q (g i).v.per,.q (g i).v.day,.q (g i).v.st,.q (g i).v.pr,.str (g i).v.rep,.str (g i).d.o,.str (g i).d.p,.q (g i).d.per,.str (g i).d.dev,.q (g i).d.num]
def mgOf(f:Nat->List AV)(i:Nat):MG:=match f i with
 |[.str dev,.int .i64 seq,.int .i64 kind,.str o,.str p,.int .i64 per,.int .i64 day,.int .i64 st,.int .i64 pr,.str rep,.str o',.str p',.int .i64 per',.str dev',.int .i64 num]=>⟨dev,seq,kind,⟨o,p,per,day,st,pr,rep⟩,⟨o',p',per',dev',num⟩⟩
 |_=>default
def wno:Spec
 |[.str a,.str b],[]=>some (.q (cmpS a b),[],True)
 |_,_=>none
def wen:Spec
 |[.agg [.str dev,.int .i64 seq,.int .i64 kind,.str o,.str p,.int .i64 per,.int .i64 day,.int .i64 st,.int .i64 pr,.str rep,.str o',.str p',.int .i64 per',.str dev',.int .i64 num],.agg [.str dev2,.int .i64 seq2,.int .i64 kind2,.str o2,.str p2,.int .i64 per2,.int .i64 day2,.int .i64 st2,.int .i64 pr2,.str rep2,.str o3,.str p3,.int .i64 per3,.str dev3,.int .i64 num2]],[]=>some (.q (ordM ⟨dev,seq,kind,⟨o,p,per,day,st,pr,rep⟩,⟨o',p',per',dev',num⟩⟩ ⟨dev2,seq2,kind2,⟨o2,p2,per2,day2,st2,pr2,rep2⟩,⟨o3,p3,per3,dev3,num2⟩⟩),[],True)
 |_,_=>none
def wot:wbp
 |[.own 0 n,.func 115 []],[.row t 15 m f fr],R=>t=40/\fr=false/\n=m/\n<=1000000/\f=wad (mgOf f)/\
   ∀h:Nat->MG,(lst h n).Perm (lst (mgOf f) n)->(∀i j,i<j->j<n->¬ ordM (h j) (h i)<0)->R (.tuple []) [(0,.row 40 15 n (wad h) false)]
 |_,_,_=>False
end Go.Eng
namespace Go.Eng
open Go.Proofs Go.RowKit
variable {H:Type} {enc:TypeId×Value->H} {W:World}
theorem undM:Tryz.prog.underlying 40=some (.struct (fsOf 40)):=by kernel_rfl
theorem undMV:Tryz.prog.underlying 36=some (.struct (fsOf 36)):=by kernel_rfl
theorem undMD:Tryz.prog.underlying 38=some (.struct (fsOf 38)):=by kernel_rfl
theorem undMs:Tryz.prog.underlying 22=some (.slice 40):=by kernel_rfl
theorem cM:Tryz.prog.cellsOf 40=15:=by kernel_rfl
theorem cMV:Tryz.prog.cellsOf 36=7:=by kernel_rfl
theorem cMD:Tryz.prog.cellsOf 38=5:=by kernel_rfl
theorem list15{l:List Value}(h:l.length=15):∃a0 a1 a2 a3 a4 a5 a6 a7 a8 a9 a10 a11 a12 a13 a14,l=[a0,a1,a2,a3,a4,a5,a6,a7,a8,a9,a10,a11,a12,a13,a14]:=by
 match l,h with
 |[a0,a1,a2,a3,a4,a5,a6,a7,a8,a9,a10,a11,a12,a13,a14],_=>exact⟨a0,a1,a2,a3,a4,a5,a6,a7,a8,a9,a10,a11,a12,a13,a14,rfl⟩
end Go.Eng
namespace Go.Eng
def wo0:wbp
 |[.nil,.int .i64 n],[],R=>0<=n/\n<=1000000/\(n=0->R .nil [])/\(0<n->R (.own 0 0) [(0,.row 40 15 0 (λ_=>[]) false)])
 |_,_,_=>False
def eqM(a b:MG):Bool:=decide (a.dev=b.dev) && (decide (a.seq=b.seq) && (decide (a.kind=b.kind) && ((decide (a.v.o=b.v.o) && (decide (a.v.p=b.v.p) && (decide (a.v.per=b.v.per) && (decide (a.v.day=b.v.day) && (decide (a.v.st=b.v.st) && (decide (a.v.pr=b.v.pr) && decide (a.v.rep=b.v.rep))))))) && (decide (a.d.o=b.d.o) && (decide (a.d.p=b.d.p) && (decide (a.d.per=b.d.per) && (decide (a.d.dev=b.d.dev) && decide (a.d.num=b.d.num))))))))
def wcs(g:Nat->MG)(i:Nat):Bool:=decide (i=0) || !eqM (g i) (g (i - 1))
def ddL(g:Nat->MG)(m:Nat):List MG:=((List.range m).filter (wcs g)).map g
def allK(g:Nat->MG):Nat->Bool
 |0=>true
 |k+1=>allK g k && wcs g k
def wo4:wbp
 |[.own 0 n],[.row t 15 m f fr],R=>t=40/\fr=false/\n=m/\n<=1000000/\f=wad (mgOf f)/\
   ∀(k:Nat) (h:Nat->MG),lst h k=ddL (mgOf f) n->R (.own 0 k) [(0,.row 40 15 k (wad h) false)]
 |_,_,_=>False
def S_cp(g:Nat->MG)(n k:Nat):St:=⟨[(0,.own 0 n),(3,.q k)],[(0,.row 40 15 n (wad g) false)],1,[]⟩
def L_cp(g:Nat->MG)(n:Nat):war:=λst Q=>canonIs te 1 [0,3] st (S_cp g n 1)/\2<=n/\n<=1000000/\
 (allK g n=true->Q (.exit 0) ⟨[(0,.own 0 n)],[(0,.row 40 15 n (wad g) false)],1,[]⟩)/\
 ∀(w:Nat) (h:Nat->MG),lst h w=ddL g n->Q .ret ⟨[(2,.own 0 w)],[(0,.row 40 15 w (wad h) false)],1,[]⟩
structure CI where
 k:Nat
 w:Nat
 h:Nat->MG
def S_ci(_g:Nat->MG)(n k0:Nat)(i:CI):St:=⟨[(0,.own 0 n),(3,.q i.w),(4,.sub 0 15 k0 (n - k0)),(5,.q i.k)],[(0,.row 40 15 n (wad i.h) false)],1,[]⟩
def L_ci(g:Nat->MG)(n k0:Nat):war:=λst Q=>canonIs te 1 [0,3,4,5] st (S_ci g n k0 ⟨1,k0,g⟩)/\(1<=k0/\k0<n/\n<=1000000)/\allK g k0=true/\wcs g k0=false/\
 ∀(w:Nat) (h:Nat->MG),w<=n->lst h w=ddL g n->Q (.exit 2) ⟨[(0,.own 0 n),(3,.q w)],[(0,.row 40 15 n (wad h) false)],1,[]⟩
def wb0(nn:Nat->Nat)(gg:Nat->Nat->MG)(i:Nat):List AV:=[.view 15 (nn i) (wad (gg i))]
def sumN(nn:Nat->Nat):Nat->Nat
 |0=>0
 |k+1=>sumN nn k+nn k
def catG(nn:Nat->Nat)(gg:Nat->Nat->MG):Nat->Nat->MG
 |0,_=>default
 |k+1,i=>if i<sumN nn k then catG nn gg k i else gg k (i - sumN nn k)
def wo3:wbp
 |[.own 0 c],[.row t 1 c' f fr],R=>∃(nn:Nat->Nat) (gg:Nat->Nat->MG),t=22/\fr=false/\c=c'/\c<=1000/\(∀i,i<c->wb0 nn gg i=f i)/\sumN nn c<=1000000/\
   R (.view 15 (sumN nn c) (wad (catG nn gg c))) [(0,.row 22 1 c (wb0 nn gg) false)]
 |_,_,_=>False
def S_c1(nn:Nat->Nat)(gg:Nat->Nat->MG)(c k:Nat):St:=⟨[(0,.own 0 c),(3,.q (sumN nn k)),(9,.own 0 c),(10,.q c),(11,.q k)],[(0,.row 22 1 c (wb0 nn gg) false)],1,[]⟩
def L_c1(nn:Nat->Nat)(gg:Nat->Nat->MG)(c:Nat):war:=λst Q=>canonIs te 1 [0,3,9,10,11] st (S_c1 nn gg c 0)/\c<=1000/\sumN nn c<=1000000/\
 Q (.exit 0) ⟨[(0,.own 0 c),(3,.q (sumN nn c))],[(0,.row 22 1 c (wb0 nn gg) false)],1,[]⟩
def S_c2(nn:Nat->Nat)(gg:Nat->Nat->MG)(c k:Nat):St:=⟨[(6,.own 1 (sumN nn k)),(25,.own 0 c),(26,.q c),(27,.q k)],[(0,.row 22 1 c (wb0 nn gg) false),(1,.row 40 15 (sumN nn k) (wad (catG nn gg k)) false)],2,[]⟩
def L_c2(nn:Nat->Nat)(gg:Nat->Nat->MG)(c:Nat):war:=λst Q=>canonIs te 1 [6,25,26,27] (ownNil 6 40 15 st) (S_c2 nn gg c 0)/\c<=1000/\sumN nn c<=1000000/\
 Q (.exit 2) ⟨[(6,.own 1 (sumN nn c))],[(0,.row 22 1 c (wb0 nn gg) false),(1,.row 40 15 (sumN nn c) (wad (catG nn gg c)) false)],2,[]⟩
def atM(L:List MG)(i:Nat):MG:=L.getD i default
def flL(g:Nat->MG)(k:Nat):List MG:=(lst g k).filter okM
structure MG.Sm (m:MG):Prop where
 a:m.dev.length<4294967281
 b:m.v.o.length<4294967281
 c:m.d.o.length<4294967281
 d:m.d.dev.length<4294967281
def nn2(n m i:Nat):Nat:=if i=0 then n else m
def gg2(g h:Nat->MG)(i:Nat):Nat->MG:=if i=0 then g else h
def mrgL(g:Nat->MG)(n:Nat)(h:Nat->MG)(m:Nat):List MG:=mrgF (lst g n++lst h m)
def S_mg(g:Nat->MG)(n k:Nat):St:=⟨[(5,.own 0 (flL g k).length),(11,.view 15 n (wad g)),(12,.q n),(13,.q k)],[(0,.row 40 15 (flL g k).length (wad (atM (flL g k))) false)],1,[]⟩
def L_mg(g:Nat->MG)(n:Nat):war:=λst Q=>canonIs te 0 [5,11,12,13] (ownNil 5 40 15 st) (S_mg g n 0)/\n<=200000/\(∀i,i<n->(g i).Sm)/\
 Q (.exit 0) ⟨[(5,.own 0 (flL g n).length)],[(0,.row 40 15 (flL g n).length (wad (atM (flL g n))) false)],1,[]⟩
def S_mrg:Spec
 |[.view 15 n f,.view 15 m h],[]=>some (.own 0 (mrgL (mgOf f) n (mgOf h) m).length,[(0,.row 40 15 (mrgL (mgOf f) n (mgOf h) m).length (wad (atM (mrgL (mgOf f) n (mgOf h) m))) false)],
   n<=100000/\m<=100000/\f=wad (mgOf f)/\h=wad (mgOf h)/\(∀i,i<n->(mgOf f i).Sm)/\∀i,i<m->(mgOf h i).Sm)
 |_,_=>none
def mk2(m:MG):List UInt8×Int:=(m.dev,m.seq)
def addC:List ((List UInt8×Int)×Int)->List UInt8×Int->List ((List UInt8×Int)×Int)
 |[],p=>[(p,1)]
 |x::l,p=>bif decide (x.1.1=p.1) && decide (x.1.2=p.2) then (p,x.2+1)::l else x::addC l p
def getC:List ((List UInt8×Int)×Int)->List UInt8×Int->Int
 |[],_=>0
 |x::l,p=>bif decide (x.1.1=p.1) && decide (x.1.2=p.2) then x.2 else getC l p
theorem same2{a b:List UInt8×Int}:(decide (a.1=b.1) && decide (a.2=b.2))=true↔a=b:=by
 simp[Prod.ext_iff]
theorem wzg(p:List UInt8×Int):∀(L:List ((List UInt8×Int)×Int)) (x:List UInt8×Int),x∈(addC L p).map Prod.fst->x∈L.map Prod.fst∨x=p
 |[],x,h=>by simpa[addC] using h
 |y::l,x,h=>by
  rw[addC] at h
  cases e:decide (y.1.1=p.1) && decide (y.1.2=p.2) with
  |true=>
   rw[e] at h
   rcases List.mem_cons.1 h with h | h
   .exact .inr h
   .exact .inl (List.mem_cons_of_mem _ h)
  |false=>
   rw[e] at h
   rcases List.mem_cons.1 h with h | h
   .exact .inl (by rw[h];exact List.mem_cons_self ..)
   .rcases wzg p l x h with h | h
    .exact .inl (List.mem_cons_of_mem _ h)
    .exact .inr h
theorem wzf(p:List UInt8×Int):∀ {L:List ((List UInt8×Int)×Int)},(L.map Prod.fst).Nodup->((addC L p).map Prod.fst).Nodup
 |[],_=>by simp[addC]
 |y::l,h=>by
  obtain⟨h1,h2⟩:=List.nodup_cons.1 (show (y.1::l.map Prod.fst).Nodup from h);rw[addC]
  cases e:decide (y.1.1=p.1) && decide (y.1.2=p.2) with
  |true=>
   have e':=same2.1 e;exact List.nodup_cons.2 ⟨by rw[← e'];exact h1,h2⟩
  |false=>
   refine List.nodup_cons.2 ⟨λq=>?_,wzf p h2⟩
   rcases wzg p l y.1 q with q | q
   .exact h1 q
   .rw[q] at e;simp at e
def entM(L:List ((List UInt8×Int)×Int)):List (AV×AV):=L.map λx=>(.agg [.str x.1.1,.q x.1.2],.q x.2)
def fstB(q:Nat->Bool):Nat->Nat
 |0=>0
 |k+1=>bif decide (fstB q k<k) then fstB q k else (bif q k then k else k+1)
def ixB(q:Nat->Bool)(n:Nat):Int:=bif decide (fstB q n<n) then (fstB q n:Int) else -1
theorem wsr(q:Nat->Bool):∀k,fstB q k<=k
 |0=>lR7 _
 |k+1=>by
  have ih:=wsr q k;rw[fstB]
  cases decide (fstB q k<k) with
  |true=>show fstB q k<=k+1;omega
  |false=>cases q k with
   |true=>show k<=k+1;omega
   |false=>exact lR7 _
theorem wsq{q:Nat->Bool}{k:Nat}(h:fstB q k=k)(hk:q k=false):fstB q (k+1)=k+1:=by
 rw[fstB,decide_eq_false (show ¬ fstB q k<k by omega),hk];rfl
theorem wss{q:Nat->Bool}{k:Nat}(h:fstB q k=k)(hk:q k=true):∀n,k<n->fstB q n=k
 |0,hn=>absurd hn (nZ7 _)
 |n+1,hn=>by
  rw[fstB]
  by_cases e:k=n
  .subst e;rw[decide_eq_false (show ¬ fstB q k<k by omega),hk];rfl
  .have ih:=wss h hk n (by omega);rw[ih,decide_eq_true (show k<n by omega)];rfl
theorem wxr(q:Nat->Bool):∀n,(∀j,j<fstB q n->q j=false)/\(fstB q n<n->q (fstB q n)=true)
 |0=>⟨λj hj=>absurd hj (nZ7 _),λh=>absurd h (nZ7 _)⟩
 |n+1=>by
  obtain⟨h1,h2⟩:=wxr q n;have hle:=wsr q n
  by_cases h:fstB q n<n
  .have e:fstB q (n+1)=fstB q n:=by rw[fstB,decide_eq_true h];rfl
   rw[e];exact⟨h1,λ_=>h2 h⟩
  .have h0:fstB q n=n:=by omega
   rw[h0] at h1
   cases hq:q n with
   |true=>
    have e:fstB q (n+1)=n:=by rw[fstB,decide_eq_false h,hq];rfl
    rw[e];exact⟨h1,λ_=>hq⟩
   |false=>
    have e:fstB q (n+1)=n+1:=wsq h0 hq;rw[e];refine⟨λj hj=>?_,λh=>absurd h (Nat.lt_irrefl _)⟩
    by_cases q':j=n
    .rw[q'];exact hq
    .exact h1 j (by omega)
def noM:Nat->MG:=λ_=>default
end Go.Eng
namespace Go.Proofs
open Go.Shelf
def Tryz.grow153_ren:Go.Shelf.Ren:=⟨λ | 4=>153 | n=>n,λ | 22=>22 | 25=>40 | 3=>3 | 4=>4 | 9=>9 | 20=>20 | 0=>0 | n=>n,λ | n=>n⟩
theorem Tryz.grow153:Go.Proofs.Lays8.n4 Tryz.prog Tryz.grow153_ren:={
 mixed:=by kernel_rfl
 f4:=⟨Tryz.f153.name,by decide,Tryz.func153.trans (congrArg some (by kernel_rfl))⟩
 t0:=Tryz.underlying0
 a0:=Tryz.isAgg0
 z0:=Tryz.sizeOf0
 v0:=Tryz.zeroValue0
 t3:=Tryz.underlying3
 a3:=Tryz.isAgg3
 z3:=Tryz.sizeOf3
 v3:=Tryz.zeroValue3
 t4:=Tryz.underlying4
 a4:=Tryz.isAgg4
 z4:=Tryz.sizeOf4
 v4:=Tryz.zeroValue4
 t9:=Tryz.underlying9
 a9:=Tryz.isAgg9
 z9:=Tryz.sizeOf9
 v9:=Tryz.zeroValue9
 t20:=Tryz.underlying20
 a20:=Tryz.isAgg20
 z20:=Tryz.sizeOf20
 v20:=Tryz.zeroValue20
 t22:=Tryz.underlying22
 a22:=Tryz.isAgg22
 z22:=Tryz.sizeOf22
 v22:=Tryz.zeroValue22 }
end Go.Proofs
namespace Go.Eng
open Go.Proofs Go.RowKit
variable {C:Ctx} [C.Loose]
set_option maxRecDepth 20000
theorem grow_ok(hP:C.P=Tryz.prog):wa4 C 153 wo0:=by
 have _:C.Loose:=inferInstance;rintro args objs R h;unfold wo0 at h;split at h
 .rename_i n;obtain⟨h0,hn,hz,hp⟩:=h;refine⟨⟨_,hP ▸ Tryz.func153,rfl,by decide⟩,λE bs w cargs h1 h2 h3 hW h5 h6 h7=>?_⟩;obtain⟨a,b,rfl⟩:∃a b,cargs=[a,b]:=by
   match cargs,h6 with
   |[a,b],_=>exact⟨a,b,rfl⟩
  have V0:=h7 0 _ _ rfl rfl;have V1:=(h7 1 _ _ rfl rfl).int_iff;subst V1;generalize hu:AV.nil=u at V0
  cases V0<;>cases hu;have hO:lkL []=lk []:=by funext i;rfl
  rw[hO] at hW;obtain⟨m,rfl⟩:∃m:Nat,n=(m:Int):=⟨n.toNat,by omega⟩
  rcases Nat.eq_zero_or_pos m with rfl | hm
  .refine Calls.mono (hP ▸ Any8.slices_Grow_room Tryz.grow153 none 0 0 0 w (by omega) (by omega) (by omega) (by omega)) ?_;rintro e w' ⟨rfl,rfl⟩;exact⟨_,.nil,[],bs,rfl,hz rfl,hW,.nil,λr _=>⟨rfl,h5 r (zL7 _)⟩⟩
  .obtain⟨i,hi,hisz,hib,hiz⟩:=((prg hP).ok 40 _ rfl).2.1;have hbytes:i.bytes<=1000:=by rw[hib];decide +kernel
   have hs15:i.size=15:=hisz;have hmul:(0+m) * i.bytes<=140737488355328:=Nat.le_trans (Nat.mul_le_mul (show 0+m<=1000000 by omega) hbytes) (by decide);have hc:=Any8.slices_Grow_grow Tryz.grow153 i _ (hP ▸ hi) hiz (by omega) none 0 0 m [] w (by omega) (by omega) hmul (by omega) (by simp) (λ_=>rfl) (λa h=>by cases h);have hcap:=grownCap_ge w (0+m) 0 40;have hmax:=grownCap_le_maxLen w (0+m) 0 40 (by unfold maxLen;omega);have c1:=h5 0 (zL7 _);have key:∀vs:Array Value,vs.size=grownCap w (0+m) 0 40 * 15->∃v u O' bs',(Ending.returned (.slice (some ⟨w.heap.size,0,none⟩) 0 (grownCap w (0+m) 0 40)))= .returned v/\R u O'/\WRep C E (lk O') bs' (w.drew.alloc (.cells vs 40))/\V (w.drew.alloc (.cells vs 40)) (MB E (lk O') bs') bs' v u/\∀r,0+16<=r->lk O' r=none/\bs' r=none:=by
    intro vs hvs
    obtain⟨k1,k2⟩:=wja hW c1 (w1:=w.drew) rfl rfl ⟨rfl,λ_=>Nat.le_succ _⟩ rfl (vs:=vs) (e:=40) (sz:=15) (n:=0) (c:=grownCap w (0+m) 0 40) (f:=λ_=>[]) (zL7 _) hmax hvs
     (λi hi=>absurd hi (nZ7 _)) (λi hi=>absurd hi (nZ7 _)) (λi hi=>absurd hi (nZ7 _))
    have e1:up (lk []) 0 (AObj.row 40 15 0 (λ_=>[]) false)=lk [(0,.row 40 15 0 (λ_=>[]) false)]:=by
     funext r;rw[wax]
     by_cases h:0=r
     .subst h;rw[waz,if_pos rfl]
     .rw[wav _ _ _ h,if_neg h]
    rw[e1] at k2;refine⟨_,.own 0 0,[(0,.row 40 15 0 (λ_=>[]) false)],up bs 0 (.blk w.heap.size (grownCap w (0+m) 0 40)),rfl,hp (by omega),k2,.own (waz _ _ _) (zL7 _) hmax,λr hr=>?_⟩;exact⟨by rw[wax,if_neg (by omega)];rfl,by rw[wav _ _ _ (by omega)];exact h5 r (zL7 _)⟩
   refine Calls.mono (hP ▸ hc) ?_;rintro e w' ⟨rfl,rfl⟩;refine key _ ?_;generalize hz15:Value.cells _=zc;have hz15:zc.size=15:=by rw[← hz15,hP];decide +kernel
   have hcap:0+m<=grownCap w (0+m) 0 40:=hcap;show (#[]++Builtin.zeroCells zc (0+m - 0)++Builtin.zeroCells zc (grownCap w (0+m) 0 40 - (0+m))).size=_;rw[Array.size_append,Array.size_append,size_zeroCells,size_zeroCells,hz15];simp only[Array.size_empty];omega
 .exact h.elim
theorem nf_cc(nn:Nat->Nat)(gg:Nat->Nat->MG)(c:Nat)(R:oR7):wpFn te [(153,.rel wo0)] [(3,L_c1 nn gg c),(11,L_c2 nn gg c)] 0 Tryz.f113 [.own 0 c] [.row 22 1 c (wb0 nn gg) false] R=(letI z3:=(∀(i:Nat),i<sumN nn c->true=true:Prop);letI z2:=(↑(sumN nn c):Int);letI z1:=([(0,.row 22 1 c (wb0 nn gg) false),(1,.row 40 15 (sumN nn c) (wad (catG nn gg c)) false)]:oL7);letI z0:=(TEq [(6,.own 1 0),(25,.own 0 c),(26,.q (c:Int)),(27,.q 0)] [(6,.own 1 0),(25,.own 0 c),(26,.q (c:Int)),(27,.q (↑0:Int))]/\wai [(0,.row 22 1 c (wb0 nn gg) false),(1,.row 40 15 0 (λ(_x:Nat)=>[]) false)] [(0,.row 22 1 c (wb0 nn gg) false),(1,.row 40 15 0 (wad (catG nn gg 0)) false)]);(TEq [(0,.own 0 c),(3,.q 0),(9,.own 0 c),(10,.q (c:Int)),(11,.q 0)] [(0,.own 0 c),(3,.q (↑(sumN nn 0):Int)),(9,.own 0 c),(10,.q (c:Int)),(11,.q (↑0:Int))]/\wai [(0,.row 22 1 c (wb0 nn gg) false)] [(0,.row 22 1 c (wb0 nn gg) false)])/\c<=1000/\sumN nn c<=1000000/\(0:Int)<=z2/\z2<=1000000/\(z2=0->z0/\c<=1000/\sumN nn c<=1000000/\(∀(i:Nat),i<c->true=true)/\z3/\∃(O':oL7),wai z1 O'/\R (.own 1 (sumN nn c)) O')/\((0:Int)<z2->(∀(i:Nat),i<0->true=true)/\z0/\c<=1000/\sumN nn c<=1000000/\(∀(i:Nat),i<c->true=true)/\z3/\∃(O':oL7),wai z1 O'/\R (.own 1 (sumN nn c)) O')):=by kernel_rfl
theorem w5e(nn:Nat->Nat)(gg:Nat->Nat->MG)(c k:Nat)(P:Nat->Prop)(R:eR7):wa1 ⟨te,[],[],1,36,0⟩ (wa2 Tryz.f113 3) [0,3,9,10,11] [0,3] [] (S_c1 nn gg c) P R (S_c1 nn gg c k)=(letI z2:=(↑(sumN nn k):Int);letI z1:=([(0,.row 22 1 c (wb0 nn gg) false)]:oL7);letI z0:=(↑(nn (k:Int).toNat):Int);wab (decide ((k:Int)<(c:Int))) (((0:Int)<=(k:Int)/\(k:Int)<(c:Int))/\((k:Int).toNat<c/\1=1)/\inR .i64 (z2+z0)/\wab (decide (z2+z0<0)) False (inR .i64 ((k:Int)+1)/\∃(i':Nat),(TEq [(0,.own 0 c),(3,.q (z2+z0)),(9,.own 0 c),(10,.q (c:Int)),(11,.q ((k:Int)+1))] [(0,.own 0 c),(3,.q (↑(sumN nn i'):Int)),(9,.own 0 c),(10,.q (c:Int)),(11,.q (i':Int))]/\wai z1 z1)/\P i')) ((∀(i:Nat),i<c->true=true)/\∃(O':oL7),wai z1 O'/\R (.exit 0) (St.mk [(0,.own 0 c),(3,.q z2)] O' 1 []))):=by kernel_rfl
theorem w5d(nn:Nat->Nat)(gg:Nat->Nat->MG)(c k:Nat)(P:Nat->Prop)(R:eR7):wa1 ⟨te,[],[],1,36,0⟩ (wa2 Tryz.f113 11) [6,25,26,27] [6] [] (S_c2 nn gg c) P R (S_c2 nn gg c k)=(letI z0:=(k:Int).toNat;wab (decide ((k:Int)<(c:Int))) (((0:Int)<=(k:Int)/\(k:Int)<(c:Int))/\((k:Int).toNat<c/\1=1)/\(15=15/\sumN nn k<=sumN nn k/\15=15/\40=40/\15=15/\sumN nn k+nn z0<=9223372036854775807/\(sumN nn k+nn z0) * 176<=140737488355328)/\inR .i64 ((k:Int)+1)/\∃(i':Nat),(TEq [(6,.own 1 (sumN nn k+nn z0)),(25,.own 0 c),(26,.q (c:Int)),(27,.q ((k:Int)+1))] [(6,.own 1 (sumN nn i')),(25,.own 0 c),(26,.q (c:Int)),(27,.q (i':Int))]/\wai [(0,.row 22 1 c (wb0 nn gg) false),(1,.row 40 15 (sumN nn k+nn z0) (apF (sumN nn k) (wad (catG nn gg k)) (wad (gg z0))) false)] [(0,.row 22 1 c (wb0 nn gg) false),(1,.row 40 15 (sumN nn i') (wad (catG nn gg i')) false)])/\P i') ((∀(i:Nat),i<c->true=true)/\(∀(i:Nat),i<sumN nn k->true=true)/\∃(O':oL7),wai [(0,.row 22 1 c (wb0 nn gg) false),(1,.row 40 15 (sumN nn k) (wad (catG nn gg k)) false)] O'/\R (.exit 2) (St.mk [(6,.own 1 (sumN nn k))] O' 2 []))):=by kernel_rfl
theorem wqw (nn : Nat → Nat) : ∀ {k c : Nat}, k ≤ c → sumN nn k ≤ sumN nn c
  | k, 0, h => by obtain rfl : k = 0 := by omega
                  exact lR7 _
  | k, c + 1, h => by
    by_cases e : k = c + 1
    · rw [e]; exact lR7 _
    · have := wqw nn (show k ≤ c by omega)
      rw [sumN]; omega
theorem c1_loop(hP:C.P=Tryz.prog)(nn:Nat->Nat)(gg:Nat->Nat->MG)(c:Nat):waj C 1 36 (wam Tryz.f113 3) (L_c1 nn gg c):=by
 have _:C.Loose:=inferInstance;rintro st Q ⟨h0,hc,hs,hQ⟩;refine waj.mk (prg hP) [] 0 .nil [0,3,9,10,11] [0,3] [] (S_c1 nn gg c) (λk=>k<=c) (λk=>c - k) 0 (zL7 _) h0 (λk hk=>?_) (λi=>⟨λ_ _=>rfl,trivial⟩);rw[w5e,tN7];refine wak (λh1=>?_) (λh1=>?_)
 .have hle:=wqw nn (show k+1<=c by omega);rw[sumN] at hle;refine⟨⟨by omega,by omega⟩,⟨by omega,rfl⟩,by simp only[inR];omega,wak (λq=>?_) (λ_=>⟨by simp only[inR];omega,k+1,⟨?_,rQ7,trivial⟩,by omega,by omega⟩)⟩
  .exfalso;omega
  .rfl
 .have:k=c:=by omega
  subst this;exact⟨λ_ _=>rfl,_,wau _,hQ⟩
theorem c2_loop(hP:C.P=Tryz.prog)(nn:Nat->Nat)(gg:Nat->Nat->MG)(c:Nat):waj C 1 36 (wam Tryz.f113 11) (L_c2 nn gg c):=by
 have _:C.Loose:=inferInstance;rintro st Q ⟨h0,hc,hs,hQ⟩;refine AWP.ownNil 6 40 15 ?_;refine waj.mk (prg hP) [] 0 .nil [6,25,26,27] [6] [] (S_c2 nn gg c) (λk=>k<=c) (λk=>c - k) 0 (zL7 _) h0 (λk hk=>?_) (λi=>⟨λ_ _=>rfl,λ_ _=>rfl,trivial⟩);rw[w5d,tN7];refine wak (λh1=>?_) (λh1=>?_)
 .have hle:=wqw nn (show k+1<=c by omega);rw[sumN] at hle;refine⟨⟨by omega,by omega⟩,⟨by omega,rfl⟩,⟨rfl,lR7 _,rfl,rfl,rfl,by omega,?_⟩,by simp only[inR];omega,k+1,⟨rfl,rQ7,⟨rfl,rfl,rfl,rfl,rfl,λj hj=>?_⟩,trivial⟩,by omega,by omega⟩
  .show (sumN nn k+nn k) * 176<=_;omega
  .show apF (sumN nn k) (wad (catG nn gg k)) (wad (gg k)) j=wad (catG nn gg (k+1)) j;unfold apF wad;rw[catG]
   by_cases h:j<sumN nn k
   .simp only[h,if_true]
   .simp only[h,if_false]
 .have:k=c:=by omega
  subst this;exact⟨λ_ _=>rfl,λ_ _=>rfl,_,wau _,hQ⟩
theorem w77(hP:C.P=Tryz.prog):wa4 C 113 wo3:=by
 rintro args objs R h;unfold wo3 at h;split at h
 .rename_i c t c' f fr;obtain⟨nn,gg,rfl,rfl,rfl,hc,hf,hs,hR⟩:=h;refine wal.rowEq 0 (f':=wb0 nn gg) rfl hf (wal.frzO 1 ?_);show wal C _ [.own 0 c] [.row 22 1 c (wb0 nn gg) false] _;refine wa4.wpL (prg hP) [(153,.rel wo0)] [(3,L_c1 nn gg c),(11,L_c2 nn gg c)] 0 (.cons (grow_ok hP) .nil) (hP ▸ Tryz.func113) rfl rfl rfl [(wam Tryz.f113 3,L_c1 nn gg c),(wam Tryz.f113 11,L_c2 nn gg c)] (by kernel_rfl) ⟨c1_loop hP nn gg c,c2_loop hP nn gg c,trivial⟩ ?_;rw[nf_cc];have fin:(∀(i:Nat),i<c->true=true)/\(∀(i:Nat),i<sumN nn c->true=true)/\∃(O':List (Nat×AObj)),wai [(0,.row 22 1 c (wb0 nn gg) false),(1,.row 40 15 (sumN nn c) (wad (catG nn gg c)) false)] O'/\frzO 1 R (.own 1 (sumN nn c)) O':=by
   refine⟨λ_ _=>rfl,λ_ _=>rfl,_,wau _,λ_ _=>rfl,?_⟩;have hb:Nat.ble (sumN nn c) (sumN nn c)=true:=Nat.ble_eq_true_of_le (lR7 _);have e:frzC 1 15 (sumN nn c) (wad (catG nn gg c)) (.own 1 (sumN nn c))= .view 15 (sumN nn c) (wad (catG nn gg c)):=by simp[frzC,frzA,frz,hb]
   rw[e];exact hR
  have start:TEq [(6,.own 1 0),(25,.own 0 c),(26,.q (c:Int)),(27,.q 0)] [(6,.own 1 0),(25,.own 0 c),(26,.q (c:Int)),(27,.q ((0:Nat):Int))]/\wai [(0,.row 22 1 c (wb0 nn gg) false),(1,.row 40 15 0 (λ_=>[]) false)] [(0,.row 22 1 c (wb0 nn gg) false),(1,.row 40 15 0 (wad (catG nn gg 0)) false)]:=
   ⟨rfl,rQ7,⟨rfl,rfl,rfl,rfl,rfl,λi hi=>absurd hi (nZ7 i)⟩,trivial⟩
  exact⟨⟨rfl,rQ7,trivial⟩,hc,hs,by omega,by omega,λ_=>⟨start,hc,hs,fin⟩,λ_=>⟨λ_ _=>rfl,start,hc,hs,fin⟩⟩
 .exact h.elim
end Go.Eng
namespace Go.Eng
theorem waj.mkI{C:Ctx}{te:TE}(hte:Prg C te){m N:Nat}{x:Code}{s:St}{Q:Exit->St->Prop}(calls:List (Nat×CSpec)){ι:Type}(loops:ι->List (Nat×war))(fuel:Nat)(hc:wde C calls)(ls:ι->List (Code×war))(hls:∀i,wbk (loops i) x=ls i)(hL:∀i,wf8 C m N (ls i))
  (F Fe Fr:List Nat) (S:ι->St) (I:ι->Prop) (μ:ι->Nat) (i0:ι) (hI:I i0)
  (h0:canonIs te m F s (S i0)) (round:∀i,I i->wa1 ⟨te,calls,loops i,m,N,fuel⟩ x F Fe Fr S (λi'=>I i'/\μ i'<μ i) Q (S i)) (hS:∀i,wch (S i).O True:=by intro i;trivial):AWP C m N (.loop x) Q s:=by
 obtain⟨ρ0,hw⟩:=wjw h0 (wdv (hS i0)).1;have key:AWP C m N (.loop x) (Eng.canQ te m Fe Fr Q) s:=by
  refine AWP.loop S I μ i0 hI hw λi hi=>?_;have hG:EnvOK C ⟨te,calls,loops i,m,N,fuel⟩:=⟨hte.ok,hte.one,hc⟩;refine(wdt hG x _ _ (by rw[hls i];exact(hL i).all) (round i hi)).mono λe s hq=>wqn (λs hs=>?_) e s hq;obtain⟨i',h3,h1,h2⟩:=hs;obtain⟨ρ,hw'⟩:=wjw h3 (wdv (hS i')).1;exact⟨i',ρ,h1,h2,hw'⟩
 exact key.canQ
theorem insRow{α:Type}[Inhabited α](enc:α->List AV)(L:List α)(x:α)(p:Nat)(hp:p<=L.length)(e0 ch:Nat->List AV)(hch:ch 0=enc x)(j:Nat)(hj:j<0+p+1+(L.length - p)):
  apF (0+p+1) (apF (0+p) (apF 0 e0 (λi=>enc (L.getD i default))) ch) (λi=>enc (L.getD (p+i) default)) j=enc ((L.take p++x::L.drop p).getD j default):=by
 unfold apF;have hlt:(L.take p).length=p:=by simp[hp]
 by_cases h1:j<p
 .rw[if_pos (by omega),if_pos (by omega),if_neg (by omega)];show enc _=enc _;congr 1;rw[List.getD_eq_getElem?_getD,List.getD_eq_getElem?_getD,List.getElem?_append_left (by omega),List.getElem?_take,if_pos h1];rfl
 .by_cases h2:j=p
  .subst h2;rw[if_pos (by omega),if_neg (by omega),Nat.zero_add,Nat.sub_self,hch];show enc _=enc _;congr 1;rw[List.getD_eq_getElem?_getD,List.getElem?_append_right (by omega),hlt,Nat.sub_self];rfl
  .rw[if_neg (by omega)];show enc _=enc _;congr 1;rw[List.getD_eq_getElem?_getD,List.getD_eq_getElem?_getD,List.getElem?_append_right (by omega),hlt];obtain⟨q,rfl⟩:∃q,j=p+1+q:=⟨j - (p+1),by omega⟩;rw[show p+1+q - p=q+1 by omega,List.getElem?_cons_succ,List.getElem?_drop,show p+1+q - (0+p+1)=q by omega]
end Go.Eng
namespace Go.Eng
open Go.Proofs Go.RowKit
variable {C:Ctx} [C.Loose]
set_option maxRecDepth 20000
theorem nf_cp(g:Nat->MG)(n:Nat)(R:oR7):wpFn te [] [(4,L_cp g n)] 0 Tryz.f116 [.own 0 n] [.row 40 15 n (wad g) false] R=(letI z0:=([(0,.row 40 15 n (wad g) false)]:oL7);wab (decide ((n:Int)<2)) ((∀(i:Nat),i<n->true=true)/\∃(O':oL7),wai z0 O'/\R (.own 0 n) O') ((TEq [(0,.own 0 n),(3,.q 1)] [(0,.own 0 n),(3,.q (↑1:Int))]/\wai z0 z0)/\2<=n/\n<=1000000/\(allK g n=true->(∀(i:Nat),i<n->true=true)/\∃(O':oL7),wai z0 O'/\R (.own 0 n) O')/\∀(w:Nat) (h:Nat->MG),lst h w=ddL g n->(∀(i:Nat),i<w->true=true)/\∃(O':oL7),wai [(0,.row 40 15 w (wad h) false)] O'/\R (.own 0 w) O')):=by kernel_rfl
theorem w40(g:Nat->MG)(n k:Nat)(P:Nat->Prop)(R:eR7):wa1 ⟨te,[],[(9,L_ci g n k)],1,61,0⟩ (wa2 Tryz.f116 4) [0,3] [0] [2] (S_cp g n) P R (S_cp g n k)=(letI z2:=([(0,.row 40 15 n (wad g) false)]:oL7);letI z1:=(g (k:Int).toNat);letI z0:=(g ((k:Int) - (1:Int)).toNat);wab (decide ((k:Int)<(n:Int))) (((0:Int)<=(k:Int)/\(k:Int)<(n:Int))/\((k:Int).toNat<n/\15=15)/\inR .i64 ((k:Int) - (1:Int))/\((0:Int)<=(k:Int) - (1:Int)/\(k:Int) - (1:Int)<(n:Int))/\(((k:Int) - (1:Int)).toNat<n/\15=15)/\wab (decide (z1.dev=z0.dev) && (decide (z1.seq=z0.seq) && (decide (z1.kind=z0.kind) && (decide (z1.v.o=z0.v.o) && (decide (z1.v.p=z0.v.p) && (decide (z1.v.per=z0.v.per) && (decide (z1.v.day=z0.v.day) && (decide (z1.v.st=z0.v.st) && (decide (z1.v.pr=z0.v.pr) && decide (z1.v.rep=z0.v.rep)))))) && (decide (z1.d.o=z0.d.o) && (decide (z1.d.p=z0.d.p) && (decide (z1.d.per=z0.d.per) && (decide (z1.d.dev=z0.d.dev) && decide (z1.d.num=z0.d.num))))))))) (((0:Int)<=(k:Int)/\(k:Int)<=(n:Int))/\(TEq [(0,.own 0 n),(3,.q (k:Int)),(4,.sub 0 15 (k:Int).toNat (n - (k:Int).toNat)),(5,.q 1)] [(0,.own 0 n),(3,.q (↑(CI.w (CI.mk 1 k g)):Int)),(4,.sub 0 15 k (n - k)),(5,.q (↑(CI.k (CI.mk 1 k g)):Int))]/\wai z2 [(0,.row 40 15 n (wad (CI.h (CI.mk 1 k g))) false)])/\(1<=k/\k<n/\n<=1000000)/\allK g k=true/\wcs g k=false/\∀(w:Nat) (h:Nat->MG),letI z3:=((0:Int)<=(w:Int)/\(w:Int)<=(n:Int):Prop);w<=n->lst h w=ddL g n->z3/\(w:Int).toNat<=n/\z3/\(∀(i:Nat),i<(w:Int).toNat->true=true)/\∃(O':oL7),wai [(0,.row 40 15 (w:Int).toNat (wad h) false)] O'/\R .ret (St.mk [(2,.own 0 (w:Int).toNat)] O' 1 [])) (inR .i64 ((k:Int)+1)/\∃(i':Nat),(TEq [(0,.own 0 n),(3,.q ((k:Int)+1))] [(0,.own 0 n),(3,.q (i':Int))]/\wai z2 z2)/\P i')) ((∀(i:Nat),i<n->true=true)/\∃(O':oL7),wai z2 O'/\R (.exit 0) (St.mk [(0,.own 0 n)] O' 1 []))):=by kernel_rfl
theorem w48(g:Nat->MG)(n k0:Nat)(i:CI)(P:CI->Prop)(R:eR7):wa1 ⟨te,[],[],1,61,0⟩ (wa2 Tryz.f116 9) [0,3,4,5] [0,3] [] (S_ci g n k0) P R (S_ci g n k0 i)=(letI z6:=([(0,.row 40 15 n (wad (CI.h i)) false)]:oL7);letI z3:=(↑(CI.w i):Int);letI z2:=(↑(CI.k i):Int);letI z5:=(z2+1);letI z4:=((0:Int)<=z2/\z2<(↑(n - k0):Int)/\15=15:Prop);letI z1:=(CI.h i (k0+(z2 - (1:Int)).toNat));letI z0:=(CI.h i (k0+z2.toNat));wab (decide (z2<(↑(n - k0):Int))) (z4/\(k0+z2.toNat<n/\15=15)/\inR .i64 (z2 - (1:Int))/\((0:Int)<=z2 - (1:Int)/\z2 - (1:Int)<(↑(n - k0):Int)/\15=15)/\(k0+(z2 - (1:Int)).toNat<n/\15=15)/\wab (!(decide (z0.dev=z1.dev) && (decide (z0.seq=z1.seq) && (decide (z0.kind=z1.kind) && (decide (z0.v.o=z1.v.o) && (decide (z0.v.p=z1.v.p) && (decide (z0.v.per=z1.v.per) && (decide (z0.v.day=z1.v.day) && (decide (z0.v.st=z1.v.st) && (decide (z0.v.pr=z1.v.pr) && decide (z0.v.rep=z1.v.rep)))))) && (decide (z0.d.o=z1.d.o) && (decide (z0.d.p=z1.d.p) && (decide (z0.d.per=z1.d.per) && (decide (z0.d.dev=z1.d.dev) && decide (z0.d.num=z1.d.num)))))))))) (z4/\(k0+z2.toNat<n/\15=15)/\((0:Int)<=z3/\z3<(n:Int))/\(List.length [AV.str z0.dev,.q z0.seq,.q z0.kind,.str z0.v.o,.str z0.v.p,.q z0.v.per,.q z0.v.day,.q z0.v.st,.q z0.v.pr,.str z0.v.rep,.str z0.d.o,.str z0.d.p,.q z0.d.per,.str z0.d.dev,.q z0.d.num]=15/\z3.toNat<n/\15=15)/\inR .i64 (z3+1)/\inR .i64 z5/\∃(i':CI),(TEq [(0,.own 0 n),(3,.q (z3+1)),(4,.sub 0 15 k0 (n - k0)),(5,.q z5)] [(0,.own 0 n),(3,.q (↑(CI.w i'):Int)),(4,.sub 0 15 k0 (n - k0)),(5,.q (↑(CI.k i'):Int))]/\wai [(0,.row 40 15 n (λ(k:Nat)=>if k=Int.toNat z3 then [.str z0.dev,.q z0.seq,.q z0.kind,.str z0.v.o,.str z0.v.p,.q z0.v.per,.q z0.v.day,.q z0.v.st,.q z0.v.pr,.str z0.v.rep,.str z0.d.o,.str z0.d.p,.q z0.d.per,.str z0.d.dev,.q z0.d.num] else wad (CI.h i) k) false)] [(0,.row 40 15 n (wad (CI.h i')) false)])/\P i') (inR .i64 z5/\∃(i':CI),(TEq [(0,.own 0 n),(3,.q z3),(4,.sub 0 15 k0 (n - k0)),(5,.q z5)] [(0,.own 0 n),(3,.q (↑(CI.w i'):Int)),(4,.sub 0 15 k0 (n - k0)),(5,.q (↑(CI.k i'):Int))]/\wai z6 [(0,.row 40 15 n (wad (CI.h i')) false)])/\P i')) ((∀(i:Nat),i<n->true=true)/\∃(O':oL7),wai z6 O'/\R (.exit 2) (St.mk [(0,.own 0 n),(3,.q z3)] O' 1 []))):=by kernel_rfl
theorem wk3(g:Nat->MG)(n:Nat):lst g (n+1)=lst g n++[g n]:=by simp[lst,List.range_succ]
theorem wju{a b:MG}:eqM a b=true↔a=b:=by
 unfold eqM;simp only[bA7,decide_eq_true_eq]
 constructor
 .rintro⟨h1,h2,h3,⟨h4,h5,h6,h7,h8,h9,h10⟩,h11,h12,h13,h14,h15⟩;obtain⟨dev,seq,kind,⟨o,p,per,day,st,pr,rep⟩,⟨o',p',per',dev',num⟩⟩:=a;obtain⟨_,_,_,⟨_,_,_,_,_,_,_⟩,⟨_,_,_,_,_⟩⟩:=b;simp_all
 .rintro rfl;simp
theorem wl2(g:Nat->MG)(m:Nat):ddL g (m+1)=ddL g m++bif wcs g m then [g m] else []:=by
 unfold ddL;rw[List.range_succ,List.filter_append,List.map_append]
 cases h:wcs g m<;>simp[h]
theorem wtk(g:Nat->MG):∀ {k:Nat},allK g k=true->ddL g k=lst g k
 |0,_=>rfl
 |k+1,h=>by
  rw[allK,bA7] at h;rw[wl2,wtk g h.1,h.2,wk3];rfl
theorem wlb{g:Nat->MG}{k:Nat}(h:0<k):wcs g k= !eqM (g k) (g (k - 1)):=by
 unfold wcs;rw[decide_eq_false (by omega)];rfl
theorem ci_loop(hP:C.P=Tryz.prog)(g:Nat->MG)(n k0:Nat):waj C 1 61 (wam Tryz.f116 9) (L_ci g n k0):=by
 have _:C.Loose:=inferInstance;rintro st Q ⟨h0,⟨hk0,hk1,hn⟩,hall,hkeep,hQ⟩
 refine waj.mk (prg hP) [] 0 .nil [0,3,4,5] [0,3] [] (S_ci g n k0) (λi=>1<=i.k/\i.k<=n - k0/\i.w<k0+i.k/\lst i.h i.w=ddL g (k0+i.k)/\∀j,i.w<=j->i.h j=g j) (λi=>n - k0 - i.k) ⟨1,k0,g⟩
  ⟨lR7 _,by show 1<=n - k0;omega,Nat.lt_succ_self _,?_,λ_ _=>rfl⟩ h0 (λi hi=>?_) (λi=>⟨λ_ _=>rfl,trivial⟩)
 .show lst g k0=ddL g (k0+1);rw[wl2,hkeep,wtk g hall];simp
 obtain⟨i1,i2,i3,i4,i5⟩:=hi;obtain⟨k,w,h⟩:=i;dsimp only at i1 i2 i3 i4 i5;rw[w48];dsimp only
 rw[tN7,tN7];have e1:((k:Int) - 1).toNat=k - 1:=by omega
 rw[e1];refine wak (λh1=>?_) (λh1=>?_)
 .have hk:k<n - k0:=by omega
  have r1:h (k0+k)=g (k0+k):=i5 _ (by omega);have r2:h (k0+(k - 1))=g (k0+(k - 1)):=i5 _ (by omega);have hkp:wcs g (k0+k)= !eqM (g (k0+k)) (g (k0+(k - 1))):=by
   rw[wlb (by omega)];have:k0+k - 1=k0+(k - 1):=by omega
   rw[this]
  have hkp:wcs g (k0+k)= !eqM (h (k0+k)) (h (k0+(k - 1))):=by rw[r1,r2];exact hkp
  refine⟨⟨by omega,by omega,rfl⟩,⟨by omega,rfl⟩,by simp only[inR];omega,⟨by omega,by omega,rfl⟩,⟨by omega,rfl⟩,waw (λq=>?_) (λq=>?_)⟩
  .have q:wcs g (k0+k)=true:=hkp.trans q;refine⟨⟨by omega,by omega,rfl⟩,⟨by omega,rfl⟩,⟨by omega,by omega⟩,⟨rfl,by omega,rfl⟩,by simp only[inR];omega,by simp only[inR];omega,⟨k+1,w+1,λj=>if j=w then h (k0+k) else h j⟩,⟨rfl,⟨rfl,rfl,rfl,rfl,rfl,λj hj=>?_⟩,trivial⟩,⟨Nat.le_add_left _ _,hk,?_,?_,λj hj=>?_⟩,?_⟩
   .unfold wad
    by_cases e:j=w
    .simp only[e,if_true]
    .simp only[e,if_false]
   .show w+1<k0+(k+1);omega
   .show lst (λj=>if j=w then h (k0+k) else h j) (w+1)=ddL g (k0+k+1)
    have e:lst (λj=>if j=w then h (k0+k) else h j) w=lst h w:=List.map_congr_left λj hj=>by
     have:=List.mem_range.1 hj;rw[if_neg (by omega)]
    rw[wk3,wl2,q,e,i4,if_pos rfl,r1];rfl
   .have hj:w+1<=j:=hj;show (if j=w then h (k0+k) else h j)=g j
    rw[if_neg (by omega)];exact i5 j (by omega)
   .show n - k0 - (k+1)<n - k0 - k;omega
  .have q:wcs g (k0+k)=false:=hkp.trans q;refine⟨by simp only[inR];omega,⟨k+1,w,h⟩,⟨rfl,rQ7,trivial⟩,⟨Nat.le_add_left _ _,hk,?_,?_,i5⟩,?_⟩
   .show w<k0+(k+1);omega
   .show lst h w=ddL g (k0+k+1);rw[wl2,q,i4];simp
   .show n - k0 - (k+1)<n - k0 - k;omega
 .have:k=n - k0:=by omega
  subst this;have e:k0+(n - k0)=n:=by omega
  rw[e] at i4;exact⟨λ_ _=>rfl,_,wau _,hQ w h (by omega) i4⟩
theorem cp_loop(hP:C.P=Tryz.prog)(g:Nat->MG)(n:Nat):waj C 1 61 (wam Tryz.f116 4) (L_cp g n):=by
 rintro st Q ⟨h0,hn2,hn,hQ,hR⟩
 refine waj.mkI (prg hP) [] (λk=>[(9,L_ci g n k)]) 0 .nil (λk=>[(wam Tryz.f116 9,L_ci g n k)]) (λk=>by kernel_rfl) (λk=>⟨ci_loop hP g n k,trivial⟩) [0,3] [0] [2] (S_cp g n) (λk=>1<=k/\k<=n/\allK g k=true) (λk=>n - k) 1
  ⟨lR7 _,by omega,rfl⟩ h0 (λk hk=>?_) (λk=>⟨λ_ _=>rfl,trivial⟩)
 obtain⟨i1,i2,i3⟩:=hk;have e1:((k:Int) - 1).toNat=k - 1:=by omega
 have hkp:wcs g k= !eqM (g k) (g (k - 1)):=wlb (by omega);rw[w40,tN7,e1];refine wak (λh1=>⟨⟨by omega,by omega⟩,⟨by omega,rfl⟩,by simp only[inR];omega,⟨by omega,by omega⟩,⟨by omega,rfl⟩,waw (λq=>?_) (λq=>?_)⟩) (λh1=>?_)
 .have q:eqM (g k) (g (k - 1))=true:=q;rw[q] at hkp;refine⟨⟨by omega,by omega⟩,⟨rfl,rQ7,trivial⟩,⟨i1,by omega,hn⟩,i3,hkp,λw h hw hl=>?_⟩;rw[tN7];exact⟨⟨by omega,by omega⟩,hw,⟨by omega,by omega⟩,λ_ _=>rfl,_,wau _,hR w h hl⟩
 .have q:eqM (g k) (g (k - 1))=false:=q;rw[q] at hkp;refine⟨by simp only[inR];omega,k+1,⟨rfl,rQ7,trivial⟩,⟨by omega,by omega,?_⟩,by omega⟩;rw[allK,i3,hkp];rfl
 .have:k=n:=by omega
  subst this;exact⟨λ_ _=>rfl,_,wau _,hQ i3⟩
theorem w8a(hP:C.P=Tryz.prog):wa4 C 116 wo4:=by
 rintro args objs R h;unfold wo4 at h;split at h
 .rename_i n t m f fr;obtain⟨rfl,rfl,rfl,hn,hf,hR⟩:=h;generalize mgOf f=g at *;subst hf;refine wa4.wpL (prg hP) [] [(4,L_cp g n)] 0 .nil (hP ▸ Tryz.func116) rfl rfl rfl [(wam Tryz.f116 4,L_cp g n)] (by kernel_rfl) ⟨cp_loop hP g n,trivial⟩ ?_;rw[nf_cp];refine wak (λh1=>⟨λ_ _=>rfl,_,wau _,hR n g ?_⟩) (λh1=>⟨⟨rfl,rQ7,trivial⟩,by omega,hn,λha=>⟨λ_ _=>rfl,_,wau _,hR n g (wtk g ha).symm⟩,λw h hl=>⟨λ_ _=>rfl,_,wau _,hR w h hl⟩⟩);have h1:n<2:=by omega
  match n,h1 with
  |0,_=>rfl
  |1,_=>rfl
 .exact h.elim
end Go.Eng
namespace Go.Proofs
open Go.Shelf
def Tryz.sort91_ren:Go.Shelf.Ren:=⟨λ | 6=>91 | 15=>137 | 14=>136 | 28=>175 | 29=>176 | 20=>167 | 21=>168 | 22=>169 | 23=>170 | 24=>171 | 25=>172 | 26=>173 | 27=>174 | 46=>208 | 47=>209 | 48=>210 | 49=>211 | 50=>212 | 57=>236 | n=>n,λ | 22=>92 | 24=>9 | 25=>125 | 3=>3 | 39=>168 | 0=>0 | 53=>201 | 55=>118 | 4=>4 | 46=>195 | 45=>194 | 50=>128 | 5=>5 | 9=>9 | 66=>226 | 70=>230 | 76=>250 | 77=>251 | n=>n,λ | n=>n⟩
theorem Tryz.sort91:Go.Proofs.SlLaysF0.n6 Tryz.prog Tryz.sort91_ren:={
 mixed:=by kernel_rfl
 f6:=⟨Tryz.f91.name,by decide,Tryz.func91.trans (congrArg some (by kernel_rfl))⟩
 f14:=⟨Tryz.f136.name,by decide,Tryz.func136.trans (congrArg some (by kernel_rfl))⟩
 f15:=Tryz.func137.trans (congrArg some (by kernel_rfl))
 f20:=⟨Tryz.f167.name,by decide,Tryz.func167.trans (congrArg some (by kernel_rfl))⟩
 f21:=⟨Tryz.f168.name,by decide,Tryz.func168.trans (congrArg some (by kernel_rfl))⟩
 f22:=⟨Tryz.f169.name,by decide,Tryz.func169.trans (congrArg some (by kernel_rfl))⟩
 f23:=⟨Tryz.f170.name,by decide,Tryz.func170.trans (congrArg some (by kernel_rfl))⟩
 f24:=⟨Tryz.f171.name,by decide,Tryz.func171.trans (congrArg some (by kernel_rfl))⟩
 f25:=⟨Tryz.f172.name,by decide,Tryz.func172.trans (congrArg some (by kernel_rfl))⟩
 f26:=⟨Tryz.f173.name,by decide,Tryz.func173.trans (congrArg some (by kernel_rfl))⟩
 f27:=⟨Tryz.f174.name,by decide,Tryz.func174.trans (congrArg some (by kernel_rfl))⟩
 f28:=Tryz.func175.trans (congrArg some (by kernel_rfl))
 f29:=Tryz.func176.trans (congrArg some (by kernel_rfl))
 f46:=⟨Tryz.f208.name,by decide,Tryz.func208.trans (congrArg some (by kernel_rfl))⟩
 f47:=Tryz.func209.trans (congrArg some (by kernel_rfl))
 f48:=Tryz.func210.trans (congrArg some (by kernel_rfl))
 f49:=⟨Tryz.f211.name,by decide,Tryz.func211.trans (congrArg some (by kernel_rfl))⟩
 f50:=⟨Tryz.f212.name,by decide,Tryz.func212.trans (congrArg some (by kernel_rfl))⟩
 f57:=⟨Tryz.f236.name,by decide,Tryz.func236.trans (congrArg some (by kernel_rfl))⟩
 t0:=Tryz.underlying0
 a0:=Tryz.isAgg0
 z0:=Tryz.sizeOf0
 v0:=Tryz.zeroValue0
 t3:=Tryz.underlying3
 a3:=Tryz.isAgg3
 z3:=Tryz.sizeOf3
 v3:=Tryz.zeroValue3
 t4:=Tryz.underlying4
 a4:=Tryz.isAgg4
 z4:=Tryz.sizeOf4
 v4:=Tryz.zeroValue4
 t5:=Tryz.underlying5
 a5:=Tryz.isAgg5
 z5:=Tryz.sizeOf5
 v5:=Tryz.zeroValue5
 t9:=Tryz.underlying9
 a9:=Tryz.isAgg9
 z9:=Tryz.sizeOf9
 v9:=Tryz.zeroValue9
 t22:=Tryz.underlying92
 a22:=Tryz.isAgg92
 z22:=Tryz.sizeOf92
 v22:=Tryz.zeroValue92
 t25:=Tryz.underlying125
 a25:=Tryz.isAgg125
 z25:=Tryz.sizeOf125
 v25:=Tryz.zeroValue125
 t39:=Tryz.underlying168
 a39:=Tryz.isAgg168
 z39:=Tryz.sizeOf168
 v39:=Tryz.zeroValue168
 t45:=Tryz.underlying194
 a45:=Tryz.isAgg194
 z45:=Tryz.sizeOf194
 v45:=Tryz.zeroValue194
 t46:=Tryz.underlying195
 a46:=Tryz.isAgg195
 z46:=Tryz.sizeOf195
 v46:=Tryz.zeroValue195
 t50:=Tryz.underlying128
 a50:=Tryz.isAgg128
 z50:=Tryz.sizeOf128
 v50:=Tryz.zeroValue128
 t53:=Tryz.underlying201
 a53:=Tryz.isAgg201
 z53:=Tryz.sizeOf201
 v53:=Tryz.zeroValue201
 t55:=Tryz.underlying118
 a55:=Tryz.isAgg118
 z55:=Tryz.sizeOf118
 v55:=Tryz.zeroValue118
 t66:=Tryz.underlying226
 a66:=Tryz.isAgg226
 z66:=Tryz.sizeOf226
 v66:=Tryz.zeroValue226
 t70:=Tryz.underlying230
 a70:=Tryz.isAgg230
 z70:=Tryz.sizeOf230
 v70:=Tryz.zeroValue230
 t76:=Tryz.underlying250
 a76:=Tryz.isAgg250
 z76:=Tryz.sizeOf250
 v76:=Tryz.zeroValue250
 t77:=Tryz.underlying251
 a77:=Tryz.isAgg251
 z77:=Tryz.sizeOf251
 v77:=Tryz.zeroValue251 }
def Tryz.sort110_ren:Go.Shelf.Ren:=⟨λ | 6=>110 | 15=>137 | 14=>152 | 28=>175 | 29=>176 | 20=>181 | 21=>182 | 22=>183 | 23=>184 | 24=>185 | 25=>186 | 26=>187 | 27=>188 | 46=>221 | 47=>209 | 48=>210 | 49=>222 | 50=>223 | 57=>240 | n=>n,λ | 22=>47 | 24=>97 | 25=>145 | 3=>3 | 39=>168 | 0=>0 | 53=>201 | 55=>118 | 4=>4 | 46=>195 | 45=>194 | 50=>128 | 5=>5 | 9=>9 | 66=>226 | 70=>230 | 76=>250 | 77=>251 | n=>n,λ | n=>n⟩
theorem Tryz.sort110:Go.Proofs.SlLaysF0.n6 Tryz.prog Tryz.sort110_ren:={
 mixed:=by kernel_rfl
 f6:=⟨Tryz.f110.name,by decide,Tryz.func110.trans (congrArg some (by kernel_rfl))⟩
 f14:=⟨Tryz.f152.name,by decide,Tryz.func152.trans (congrArg some (by kernel_rfl))⟩
 f15:=Tryz.func137.trans (congrArg some (by kernel_rfl))
 f20:=⟨Tryz.f181.name,by decide,Tryz.func181.trans (congrArg some (by kernel_rfl))⟩
 f21:=⟨Tryz.f182.name,by decide,Tryz.func182.trans (congrArg some (by kernel_rfl))⟩
 f22:=⟨Tryz.f183.name,by decide,Tryz.func183.trans (congrArg some (by kernel_rfl))⟩
 f23:=⟨Tryz.f184.name,by decide,Tryz.func184.trans (congrArg some (by kernel_rfl))⟩
 f24:=⟨Tryz.f185.name,by decide,Tryz.func185.trans (congrArg some (by kernel_rfl))⟩
 f25:=⟨Tryz.f186.name,by decide,Tryz.func186.trans (congrArg some (by kernel_rfl))⟩
 f26:=⟨Tryz.f187.name,by decide,Tryz.func187.trans (congrArg some (by kernel_rfl))⟩
 f27:=⟨Tryz.f188.name,by decide,Tryz.func188.trans (congrArg some (by kernel_rfl))⟩
 f28:=Tryz.func175.trans (congrArg some (by kernel_rfl))
 f29:=Tryz.func176.trans (congrArg some (by kernel_rfl))
 f46:=⟨Tryz.f221.name,by decide,Tryz.func221.trans (congrArg some (by kernel_rfl))⟩
 f47:=Tryz.func209.trans (congrArg some (by kernel_rfl))
 f48:=Tryz.func210.trans (congrArg some (by kernel_rfl))
 f49:=⟨Tryz.f222.name,by decide,Tryz.func222.trans (congrArg some (by kernel_rfl))⟩
 f50:=⟨Tryz.f223.name,by decide,Tryz.func223.trans (congrArg some (by kernel_rfl))⟩
 f57:=⟨Tryz.f240.name,by decide,Tryz.func240.trans (congrArg some (by kernel_rfl))⟩
 t0:=Tryz.underlying0
 a0:=Tryz.isAgg0
 z0:=Tryz.sizeOf0
 v0:=Tryz.zeroValue0
 t3:=Tryz.underlying3
 a3:=Tryz.isAgg3
 z3:=Tryz.sizeOf3
 v3:=Tryz.zeroValue3
 t4:=Tryz.underlying4
 a4:=Tryz.isAgg4
 z4:=Tryz.sizeOf4
 v4:=Tryz.zeroValue4
 t5:=Tryz.underlying5
 a5:=Tryz.isAgg5
 z5:=Tryz.sizeOf5
 v5:=Tryz.zeroValue5
 t9:=Tryz.underlying9
 a9:=Tryz.isAgg9
 z9:=Tryz.sizeOf9
 v9:=Tryz.zeroValue9
 t22:=Tryz.underlying47
 a22:=Tryz.isAgg47
 z22:=Tryz.sizeOf47
 v22:=Tryz.zeroValue47
 t25:=Tryz.underlying145
 a25:=Tryz.isAgg145
 z25:=Tryz.sizeOf145
 v25:=Tryz.zeroValue145
 t39:=Tryz.underlying168
 a39:=Tryz.isAgg168
 z39:=Tryz.sizeOf168
 v39:=Tryz.zeroValue168
 t45:=Tryz.underlying194
 a45:=Tryz.isAgg194
 z45:=Tryz.sizeOf194
 v45:=Tryz.zeroValue194
 t46:=Tryz.underlying195
 a46:=Tryz.isAgg195
 z46:=Tryz.sizeOf195
 v46:=Tryz.zeroValue195
 t50:=Tryz.underlying128
 a50:=Tryz.isAgg128
 z50:=Tryz.sizeOf128
 v50:=Tryz.zeroValue128
 t53:=Tryz.underlying201
 a53:=Tryz.isAgg201
 z53:=Tryz.sizeOf201
 v53:=Tryz.zeroValue201
 t55:=Tryz.underlying118
 a55:=Tryz.isAgg118
 z55:=Tryz.sizeOf118
 v55:=Tryz.zeroValue118
 t66:=Tryz.underlying226
 a66:=Tryz.isAgg226
 z66:=Tryz.sizeOf226
 v66:=Tryz.zeroValue226
 t70:=Tryz.underlying230
 a70:=Tryz.isAgg230
 z70:=Tryz.sizeOf230
 v70:=Tryz.zeroValue230
 t76:=Tryz.underlying250
 a76:=Tryz.isAgg250
 z76:=Tryz.sizeOf250
 v76:=Tryz.zeroValue250
 t77:=Tryz.underlying251
 a77:=Tryz.isAgg251
 z77:=Tryz.sizeOf251
 v77:=Tryz.zeroValue251 }
def Tryz.sort114_ren:Go.Shelf.Ren:=⟨λ | 6=>114 | 15=>137 | 14=>154 | 28=>175 | 29=>176 | 20=>189 | 21=>190 | 22=>191 | 23=>192 | 24=>193 | 25=>194 | 26=>195 | 27=>196 | 46=>224 | 47=>209 | 48=>210 | 49=>225 | 50=>226 | 57=>241 | n=>n,λ | 22=>22 | 24=>40 | 25=>150 | 3=>3 | 39=>168 | 0=>0 | 53=>201 | 55=>118 | 4=>4 | 46=>195 | 45=>194 | 50=>128 | 5=>5 | 9=>9 | 66=>226 | 70=>230 | 76=>250 | 77=>251 | n=>n,λ | n=>n⟩
theorem Tryz.sort114:Go.Proofs.SlLaysF0.n6 Tryz.prog Tryz.sort114_ren:={
 mixed:=by kernel_rfl
 f6:=⟨Tryz.f114.name,by decide,Tryz.func114.trans (congrArg some (by kernel_rfl))⟩
 f14:=⟨Tryz.f154.name,by decide,Tryz.func154.trans (congrArg some (by kernel_rfl))⟩
 f15:=Tryz.func137.trans (congrArg some (by kernel_rfl))
 f20:=⟨Tryz.f189.name,by decide,Tryz.func189.trans (congrArg some (by kernel_rfl))⟩
 f21:=⟨Tryz.f190.name,by decide,Tryz.func190.trans (congrArg some (by kernel_rfl))⟩
 f22:=⟨Tryz.f191.name,by decide,Tryz.func191.trans (congrArg some (by kernel_rfl))⟩
 f23:=⟨Tryz.f192.name,by decide,Tryz.func192.trans (congrArg some (by kernel_rfl))⟩
 f24:=⟨Tryz.f193.name,by decide,Tryz.func193.trans (congrArg some (by kernel_rfl))⟩
 f25:=⟨Tryz.f194.name,by decide,Tryz.func194.trans (congrArg some (by kernel_rfl))⟩
 f26:=⟨Tryz.f195.name,by decide,Tryz.func195.trans (congrArg some (by kernel_rfl))⟩
 f27:=⟨Tryz.f196.name,by decide,Tryz.func196.trans (congrArg some (by kernel_rfl))⟩
 f28:=Tryz.func175.trans (congrArg some (by kernel_rfl))
 f29:=Tryz.func176.trans (congrArg some (by kernel_rfl))
 f46:=⟨Tryz.f224.name,by decide,Tryz.func224.trans (congrArg some (by kernel_rfl))⟩
 f47:=Tryz.func209.trans (congrArg some (by kernel_rfl))
 f48:=Tryz.func210.trans (congrArg some (by kernel_rfl))
 f49:=⟨Tryz.f225.name,by decide,Tryz.func225.trans (congrArg some (by kernel_rfl))⟩
 f50:=⟨Tryz.f226.name,by decide,Tryz.func226.trans (congrArg some (by kernel_rfl))⟩
 f57:=⟨Tryz.f241.name,by decide,Tryz.func241.trans (congrArg some (by kernel_rfl))⟩
 t0:=Tryz.underlying0
 a0:=Tryz.isAgg0
 z0:=Tryz.sizeOf0
 v0:=Tryz.zeroValue0
 t3:=Tryz.underlying3
 a3:=Tryz.isAgg3
 z3:=Tryz.sizeOf3
 v3:=Tryz.zeroValue3
 t4:=Tryz.underlying4
 a4:=Tryz.isAgg4
 z4:=Tryz.sizeOf4
 v4:=Tryz.zeroValue4
 t5:=Tryz.underlying5
 a5:=Tryz.isAgg5
 z5:=Tryz.sizeOf5
 v5:=Tryz.zeroValue5
 t9:=Tryz.underlying9
 a9:=Tryz.isAgg9
 z9:=Tryz.sizeOf9
 v9:=Tryz.zeroValue9
 t22:=Tryz.underlying22
 a22:=Tryz.isAgg22
 z22:=Tryz.sizeOf22
 v22:=Tryz.zeroValue22
 t25:=Tryz.underlying150
 a25:=Tryz.isAgg150
 z25:=Tryz.sizeOf150
 v25:=Tryz.zeroValue150
 t39:=Tryz.underlying168
 a39:=Tryz.isAgg168
 z39:=Tryz.sizeOf168
 v39:=Tryz.zeroValue168
 t45:=Tryz.underlying194
 a45:=Tryz.isAgg194
 z45:=Tryz.sizeOf194
 v45:=Tryz.zeroValue194
 t46:=Tryz.underlying195
 a46:=Tryz.isAgg195
 z46:=Tryz.sizeOf195
 v46:=Tryz.zeroValue195
 t50:=Tryz.underlying128
 a50:=Tryz.isAgg128
 z50:=Tryz.sizeOf128
 v50:=Tryz.zeroValue128
 t53:=Tryz.underlying201
 a53:=Tryz.isAgg201
 z53:=Tryz.sizeOf201
 v53:=Tryz.zeroValue201
 t55:=Tryz.underlying118
 a55:=Tryz.isAgg118
 z55:=Tryz.sizeOf118
 v55:=Tryz.zeroValue118
 t66:=Tryz.underlying226
 a66:=Tryz.isAgg226
 z66:=Tryz.sizeOf226
 v66:=Tryz.zeroValue226
 t70:=Tryz.underlying230
 a70:=Tryz.isAgg230
 z70:=Tryz.sizeOf230
 v70:=Tryz.zeroValue230
 t76:=Tryz.underlying250
 a76:=Tryz.isAgg250
 z76:=Tryz.sizeOf250
 v76:=Tryz.zeroValue250
 t77:=Tryz.underlying251
 a77:=Tryz.isAgg251
 z77:=Tryz.sizeOf251
 v77:=Tryz.zeroValue251 }
def Tryz.sort146_ren:Go.Shelf.Ren:=⟨λ | 6=>146 | 15=>137 | 14=>179 | 28=>175 | 29=>176 | 20=>213 | 21=>214 | 22=>215 | 23=>216 | 24=>217 | 25=>218 | 26=>219 | 27=>220 | 46=>237 | 47=>209 | 48=>210 | 49=>238 | 50=>239 | 57=>256 | n=>n,λ | 22=>46 | 24=>61 | 25=>179 | 3=>3 | 39=>168 | 0=>0 | 53=>201 | 55=>118 | 4=>4 | 46=>195 | 45=>194 | 50=>128 | 5=>5 | 9=>9 | 66=>226 | 70=>230 | 76=>250 | 77=>251 | n=>n,λ | n=>n⟩
theorem Tryz.sort146:Go.Proofs.SlLaysF0.n6 Tryz.prog Tryz.sort146_ren:={
 mixed:=by kernel_rfl
 f6:=⟨Tryz.f146.name,by decide,Tryz.func146.trans (congrArg some (by kernel_rfl))⟩
 f14:=⟨Tryz.f179.name,by decide,Tryz.func179.trans (congrArg some (by kernel_rfl))⟩
 f15:=Tryz.func137.trans (congrArg some (by kernel_rfl))
 f20:=⟨Tryz.f213.name,by decide,Tryz.func213.trans (congrArg some (by kernel_rfl))⟩
 f21:=⟨Tryz.f214.name,by decide,Tryz.func214.trans (congrArg some (by kernel_rfl))⟩
 f22:=⟨Tryz.f215.name,by decide,Tryz.func215.trans (congrArg some (by kernel_rfl))⟩
 f23:=⟨Tryz.f216.name,by decide,Tryz.func216.trans (congrArg some (by kernel_rfl))⟩
 f24:=⟨Tryz.f217.name,by decide,Tryz.func217.trans (congrArg some (by kernel_rfl))⟩
 f25:=⟨Tryz.f218.name,by decide,Tryz.func218.trans (congrArg some (by kernel_rfl))⟩
 f26:=⟨Tryz.f219.name,by decide,Tryz.func219.trans (congrArg some (by kernel_rfl))⟩
 f27:=⟨Tryz.f220.name,by decide,Tryz.func220.trans (congrArg some (by kernel_rfl))⟩
 f28:=Tryz.func175.trans (congrArg some (by kernel_rfl))
 f29:=Tryz.func176.trans (congrArg some (by kernel_rfl))
 f46:=⟨Tryz.f237.name,by decide,Tryz.func237.trans (congrArg some (by kernel_rfl))⟩
 f47:=Tryz.func209.trans (congrArg some (by kernel_rfl))
 f48:=Tryz.func210.trans (congrArg some (by kernel_rfl))
 f49:=⟨Tryz.f238.name,by decide,Tryz.func238.trans (congrArg some (by kernel_rfl))⟩
 f50:=⟨Tryz.f239.name,by decide,Tryz.func239.trans (congrArg some (by kernel_rfl))⟩
 f57:=⟨Tryz.f256.name,by decide,Tryz.func256.trans (congrArg some (by kernel_rfl))⟩
 t0:=Tryz.underlying0
 a0:=Tryz.isAgg0
 z0:=Tryz.sizeOf0
 v0:=Tryz.zeroValue0
 t3:=Tryz.underlying3
 a3:=Tryz.isAgg3
 z3:=Tryz.sizeOf3
 v3:=Tryz.zeroValue3
 t4:=Tryz.underlying4
 a4:=Tryz.isAgg4
 z4:=Tryz.sizeOf4
 v4:=Tryz.zeroValue4
 t5:=Tryz.underlying5
 a5:=Tryz.isAgg5
 z5:=Tryz.sizeOf5
 v5:=Tryz.zeroValue5
 t9:=Tryz.underlying9
 a9:=Tryz.isAgg9
 z9:=Tryz.sizeOf9
 v9:=Tryz.zeroValue9
 t22:=Tryz.underlying46
 a22:=Tryz.isAgg46
 z22:=Tryz.sizeOf46
 v22:=Tryz.zeroValue46
 t25:=Tryz.underlying179
 a25:=Tryz.isAgg179
 z25:=Tryz.sizeOf179
 v25:=Tryz.zeroValue179
 t39:=Tryz.underlying168
 a39:=Tryz.isAgg168
 z39:=Tryz.sizeOf168
 v39:=Tryz.zeroValue168
 t45:=Tryz.underlying194
 a45:=Tryz.isAgg194
 z45:=Tryz.sizeOf194
 v45:=Tryz.zeroValue194
 t46:=Tryz.underlying195
 a46:=Tryz.isAgg195
 z46:=Tryz.sizeOf195
 v46:=Tryz.zeroValue195
 t50:=Tryz.underlying128
 a50:=Tryz.isAgg128
 z50:=Tryz.sizeOf128
 v50:=Tryz.zeroValue128
 t53:=Tryz.underlying201
 a53:=Tryz.isAgg201
 z53:=Tryz.sizeOf201
 v53:=Tryz.zeroValue201
 t55:=Tryz.underlying118
 a55:=Tryz.isAgg118
 z55:=Tryz.sizeOf118
 v55:=Tryz.zeroValue118
 t66:=Tryz.underlying226
 a66:=Tryz.isAgg226
 z66:=Tryz.sizeOf226
 v66:=Tryz.zeroValue226
 t70:=Tryz.underlying230
 a70:=Tryz.isAgg230
 z70:=Tryz.sizeOf230
 v70:=Tryz.zeroValue230
 t76:=Tryz.underlying250
 a76:=Tryz.isAgg250
 z76:=Tryz.sizeOf250
 v76:=Tryz.zeroValue250
 t77:=Tryz.underlying251
 a77:=Tryz.isAgg251
 z77:=Tryz.sizeOf251
 v77:=Tryz.zeroValue251 }
end Go.Proofs
