/- Merge at messages: what it answers. -/
import Derived.Test.YtgcboligphndhaaGreatDoorBl
import Derived.Test.YtgcboligphndhaaGreatDoorBm
namespace Go.Eng
structure PreC {α:Type} (c:α→α→Int):Prop where
 neg:∀ x y,c y x<0↔0<c x y
 trans:∀ x y z,c x y≤0→c y z≤0→c x z≤0
namespace PreC
variable {α β:Type} {c:α→α→Int}
theorem self (h:PreC c) (x:α):c x x=0:=by
 have:=h.neg x x
 omega
theorem lt_le (h:PreC c) {x y z:α} (a:c x y<0) (b:c y z≤0):c x z<0:=by
 have h1:=h.trans x y z (by omega) b
 have h2:=h.neg x z
 have h3:=h.neg z x
 rcases Int.lt_or_eq_of_le h1 with h' | h'
 ·exact h'
 ·have h4:c z x≤0:=by omega
  have h5:=h.trans y z x b h4
  have:=h.neg y x
  omega
theorem le_lt (h:PreC c) {x y z:α} (a:c x y≤0) (b:c y z<0):c x z<0:=by
 have h1:=h.trans x y z a (by omega)
 have h2:=h.neg x z
 have h3:=h.neg z x
 rcases Int.lt_or_eq_of_le h1 with h' | h'
 ·exact h'
 ·have h4:c z x≤0:=by omega
  have h5:=h.trans z x y h4 a
  have:=h.neg z y
  omega
theorem lt_trans (h:PreC c) {x y z:α} (a:c x y<0) (b:c y z<0):c x z<0:=h.lt_le a (by omega)
theorem eq_symm (h:PreC c) {x y:α} (a:c x y=0):c y x=0:=by
 have h1:=h.neg x y
 have h2:=h.neg y x
 omega
theorem comap (h:PreC c) (f:β→α):PreC fun x y=>c (f x) (f y):=⟨fun _x _y=>h.neg _ _,fun _x _y _z=>h.trans _ _ _⟩
end PreC
def orL:List Int→Int
 |[]=>0
 |x::l=>bif decide (x=0) then orL l else x
theorem PreC.nil {α:Type}:PreC fun (_ _:α)=>orL []:=⟨fun _ _=>by simp [orL],fun _ _ _ _ _=>by simp [orL]⟩
theorem PreC.or {α:Type} {c:α→α→Int} {d:α→α→List Int} (h:PreC c) (k:PreC fun x y=>orL (d x y)):PreC fun x y=>orL (c x y::d x y):=by
 have e:∀ x y,orL (c x y::d x y)=if c x y=0 then orL (d x y) else c x y:=fun x y=>by
  rw [orL];by_cases q:c x y=0<;>simp [q]
 refine ⟨fun x y=>?_,fun x y z h1 h2=>?_⟩
 ·rw [e,e]
  have h1:=h.neg x y
  have h2:=h.neg y x
  have h3:=k.neg x y
  by_cases q:c x y=0
  ·rw [if_pos q,if_pos (h.eq_symm q)];exact h3
  ·rw [if_neg q,if_neg (fun q'=>q (h.eq_symm q'))];exact h1
 ·rw [e] at h1 h2 ⊢
  by_cases q:c x y=0
  ·rw [if_pos q] at h1
   by_cases q':c y z=0
   ·rw [if_pos q'] at h2
    have a1:=h.trans x y z (by omega) (by omega)
    have a2:=h.trans z y x (by have:=h.eq_symm q';omega) (by have:=h.eq_symm q;omega)
    have a3:=h.neg z x
    rw [if_pos (by omega)]
    exact k.trans x y z h1 h2
   ·rw [if_neg q'] at h2
    have a1:=h.le_lt (x:=x) (y:=y) (z:=z) (by omega) (by omega)
    rw [if_neg (by omega)];exact Int.le_of_lt a1
  ·rw [if_neg q] at h1
   have:c y z≤0:=by
    by_cases q':c y z=0
    ·omega
    ·rw [if_neg q'] at h2;exact h2
   have a1:=h.lt_le (x:=x) (y:=y) (z:=z) (by omega) this
   rw [if_neg (by omega)];exact Int.le_of_lt a1
theorem wvt {x:Int} {l:List Int}:orL (x::l)=0↔x=0∧orL l=0:=by
 rw [orL]
 by_cases h:x=0<;>simp [h]
def cmpI (a b:Int):Int:=bif decide (a<b) then -1 else bif decide (b<a) then 1 else 0
def cmpS (a b:List UInt8):Int:=bif Op.bytesLess a b then -1 else bif Op.bytesLess b a then 1 else 0
theorem wgb (a b:Int):(a<b∧cmpI a b= -1)∨(a=b∧cmpI a b=0)∨(b<a∧cmpI a b=1):=by
 unfold cmpI
 by_cases h:a<b
 ·simp [h]
 ·by_cases h':b<a
  ·simp [h,h']
  ·have:a=b:=by omega
   simp [this]
theorem wh7:PreC cmpI:=by
 refine ⟨fun x y=>?_,fun x y z=>?_⟩
 ·have:=wgb x y;have:=wgb y x;omega
 ·have:=wgb x y;have:=wgb y z;have:=wgb x z;omega
theorem wz0 {a b:Int}:cmpI a b=0↔a=b:=by have:=wgb a b;omega
theorem wge:∀ a:List UInt8,Op.bytesLess a a=false
 |[]=>rfl
 |a::x=>by simp [Op.bytesLess,wge x]
theorem bl_tri:∀ a b:List UInt8,Op.bytesLess a b=true∨a=b∨Op.bytesLess b a=true
 |[],[]=>.inr (.inl rfl)
 |[],_::_=>.inl rfl
 |_::_,[]=>.inr (.inr rfl)
 |a::x,b::y=>by
  simp only [Op.bytesLess,Bool.or_eq_true,Bool.and_eq_true,decide_eq_true_eq,beq_iff_eq]
  rcases bl_tri x y with h | h | h
  ·by_cases e:a=b
   ·exact .inl (.inr ⟨e,h⟩)
   ·rcases Nat.lt_or_gt_of_ne (fun q=>e (UInt8.toNat_inj.1 q)) with q | q
    ·exact .inl (.inl q)
    ·exact .inr (.inr (.inl q))
  ·by_cases e:a=b
   ·exact .inr (.inl (by rw [e,h]))
   ·rcases Nat.lt_or_gt_of_ne (fun q=>e (UInt8.toNat_inj.1 q)) with q | q
    ·exact .inl (.inl q)
    ·exact .inr (.inr (.inl q))
  ·by_cases e:a=b
   ·exact .inr (.inr (.inr ⟨e.symm,h⟩))
   ·rcases Nat.lt_or_gt_of_ne (fun q=>e (UInt8.toNat_inj.1 q)) with q | q
    ·exact .inl (.inl q)
    ·exact .inr (.inr (.inl q))
theorem wpc:∀ a b c:List UInt8,Op.bytesLess a b=true→Op.bytesLess b c=true→Op.bytesLess a c=true
 |_,[],_,h,_=>by cases ‹List UInt8› <;>simp [Op.bytesLess] at h
 |_,_::_,[],_,h=>by simp [Op.bytesLess] at h
 |[],_::_,_::_,_,_=>rfl
 |a::x,b::y,c::z,h,k=>by
  simp only [Op.bytesLess,Bool.or_eq_true,Bool.and_eq_true,decide_eq_true_eq,beq_iff_eq] at h k ⊢
  rcases h with h | ⟨rfl,h⟩
  ·rcases k with k | ⟨rfl,k⟩
   ·exact .inl (UInt8.lt_trans h k)
   ·exact .inl h
  ·rcases k with k | ⟨rfl,k⟩
   ·exact .inl k
   ·exact .inr ⟨rfl,wpc x y z h k⟩
theorem wpd {a b:List UInt8} (h:Op.bytesLess a b=true):Op.bytesLess b a=false:=by
 cases q:Op.bytesLess b a with
 |false=>rfl
 |true=>have:=wpc a b a h q;rw [wge] at this;cases this
theorem wh6 (a b:List UInt8):(Op.bytesLess a b=true∧cmpS a b= -1)∨(a=b∧cmpS a b=0)∨(Op.bytesLess b a=true∧cmpS a b=1):=by
 unfold cmpS
 rcases bl_tri a b with h | h | h
 ·exact .inl ⟨h,by rw [h];rfl⟩
 ·subst h;exact .inr (.inl ⟨rfl,by rw [wge];rfl⟩)
 ·exact .inr (.inr ⟨h,by rw [wpd h,h];rfl⟩)
theorem wzx {a b:List UInt8}:cmpS a b=0↔a=b:=by
 constructor
 ·intro h
  rcases wh6 a b with ⟨_,q⟩ | ⟨q,_⟩ | ⟨_,q⟩
  ·omega
  ·exact q
  ·omega
 ·rintro rfl
  unfold cmpS
  rw [wge];rfl
theorem wtr {a b:List UInt8}:cmpS a b<0↔Op.bytesLess a b=true:=by
 rcases wh6 a b with ⟨h,q⟩ | ⟨h,q⟩ | ⟨h,q⟩
 ·exact ⟨fun _=>h,fun _=>by omega⟩
 ·subst h;rw [wge,q];simp
 ·rw [wpd h,q];simp
theorem wga:PreC cmpS:=by
 refine ⟨fun x y=>?_,fun x y z h1 h2=>?_⟩
 ·rw [wtr]
  rcases wh6 x y with ⟨h,q⟩ | ⟨h,q⟩ | ⟨h,q⟩
  ·rw [wpd h,q];simp
  ·subst h;rw [wge,q];simp
  ·rw [h,q];simp
 ·rcases wh6 x y with ⟨h,q⟩ | ⟨h,q⟩ | ⟨h,q⟩
  ·rcases wh6 y z with ⟨h',q'⟩ | ⟨h',q'⟩ | ⟨h',q'⟩
   ·have:=wtr.2 (wpc x y z h h');omega
   ·subst h';omega
   ·omega
  ·subst h;exact h2
  ·omega
def Asc {α:Type} (c:α→α→Int) (l:List α):Prop:=l.Pairwise fun x y=>c x y<0
theorem Asc.uniq {α:Type} {c:α→α→Int} (hc:PreC c):∀ {l l':List α},Asc c l→Asc c l'→(∀ x,x∈l↔x∈l')→l=l'
 |[],[],_,_,_=>rfl
 |[],y::l',_,_,h=>by have:=(h y).2 (List.mem_cons_self ..);cases this
 |x::l,[],_,_,h=>by have:=(h x).1 (List.mem_cons_self ..);cases this
 |x::l,y::l',h1,h2,h=>by
  obtain ⟨a1,a2⟩:=List.pairwise_cons.1 h1
  obtain ⟨b1,b2⟩:=List.pairwise_cons.1 h2
  have e:x=y:=by
   rcases List.mem_cons.1 ((h x).1 (List.mem_cons_self ..)) with q | q
   ·exact q
   ·rcases List.mem_cons.1 ((h y).2 (List.mem_cons_self ..)) with q' | q'
    ·exact q'.symm
    ·have e1:=b1 x q
     have e2:=a1 y q'
     have:=hc.lt_trans e1 e2
     rw [hc.self] at this;omega
  subst e
  have irr:∀ {l:List α},(∀ z,z∈l→c x z<0)→x ∉ l:=fun hl hx=>by have:=hl x hx;rw [hc.self] at this;omega
  rw [Asc.uniq hc a2 b2 fun z=>⟨fun hz=>?_,fun hz=>?_⟩]
  ·rcases List.mem_cons.1 ((h z).1 (List.mem_cons_of_mem _ hz)) with q | q
   ·exact absurd (q ▸ hz) (irr a1)
   ·exact q
  ·rcases List.mem_cons.1 ((h z).2 (List.mem_cons_of_mem _ hz)) with q | q
   ·exact absurd (q ▸ hz) (irr b1)
   ·exact q
theorem Asc.of_sorted {α:Type} {c:α→α→Int} {l:List α} (h:l.Pairwise fun x y=>¬ c y x<0) (hc:PreC c) (hn:l.Pairwise fun x y=>c x y≠0):Asc c l:=by
 refine (h.and hn).imp ?_
 rintro x y ⟨a,b⟩
 have:=hc.neg x y
 omega
theorem wvs {α:Type} {r:α→α→Prop} {n:Nat} {f:Nat→α} (h:∀ i j,i<j→j<n→r (f i) (f j)):((List.range n).map f).Pairwise r:=by
 rw [List.pairwise_map]
 exact List.pairwise_lt_range.imp_of_mem fun {i j} _ hj hij=>h i j hij (List.mem_range.1 hj)
def wbm (nm:Nat→List UInt8):Nat→List (AV×AV)
 |0=>[]
 |k+1=>wbm nm k++[(.str (nm k),.bool true)]
theorem wrw (nm:Nat→List UInt8) (x:List UInt8):∀ j,mget (wbm nm j) (.str x)=bif (List.range j).any (fun i=>decide (nm i=x)) then some (.bool true) else none
 |0=>rfl
 |j+1=>by
  have app:∀ (l:List (AV×AV)) (k:AV) (p:AV×AV),mget (l++[p]) k=(mget l k).or (bif keq p.1 k then some p.2 else none):=by
   intro l k p
   induction l with
   |nil=>simp only [List.nil_append,mget];cases keq p.1 k<;>rfl
   |cons q l ih=>
    simp only [List.cons_append,mget]
    cases keq q.1 k with
    |true=>rfl
    |false=>exact ih
  rw [wbm,app,wrw nm x j,List.range_succ,List.any_append]
  simp only [List.any_cons,List.any_nil,Bool.or_false,keq]
  cases (List.range j).any (fun i=>decide (nm i=x))<;>cases decide (nm j=x)<;>rfl
theorem wjo (nm:Nat→List UInt8) (k:Nat):∀ j,why nm j k= !(List.range j).any (fun i=>decide (nm i=nm k))
 |0=>rfl
 |j+1=>by
  rw [why,wjo nm k j,List.range_succ,List.any_append]
  simp only [List.any_cons,List.any_nil,Bool.or_false,Bool.not_or]
  congr 2
  simp only [eq_comm]
theorem wx3 (nm:Nat→List UInt8) (x:List UInt8) (v:AV):∀ j,(List.range j).any (fun i=>decide (nm i=x))=false→mset (wbm nm j) (.str x) v=wbm nm j++[(.str x,v)]:=by
 have app:∀ (l:List (AV×AV)) (k v:AV),(∀ p∈l,keq p.1 k=false)→mset l k v=l++[(k,v)]:=by
  intro l k v h
  induction l with
  |nil=>rfl
  |cons q l ih=>
   simp only [List.cons_append,mset]
   rw [h q (List.mem_cons_self ..),ih (fun p hp=>h p (List.mem_cons_of_mem _ hp))]
 intro j hj
 apply app
 induction j with
 |zero=>intro p hp;cases hp
 |succ j ih=>
  rw [List.range_succ,List.any_append,Bool.or_eq_false_iff] at hj
  intro p hp
  rw [wbm,List.mem_append] at hp
  rcases hp with hp | hp
  ·exact ih hj.1 p hp
  ·obtain rfl:=List.mem_singleton.1 hp
   simpa [keq] using hj.2
theorem wql (nm vl:Nat→List UInt8):∀ k,wdn nm vl k=true→wbl .string (wbm nm k)
 |0,_=>⟨rfl,List.nodup_nil⟩
 |k+1,h=>by
  rw [wdn,Bool.and_eq_true] at h
  obtain ⟨h1,h2⟩:=wql nm vl k h.1
  have hf:why nm k k=true:=by
   have:=h.2
   unfold atOK at this
   rw [Bool.and_eq_true] at this
   exact this.2
  rw [wjo,Bool.not_eq_true'] at hf
  have hmem:∀ j,(List.range j).any (fun i=>decide (nm i=nm k))=false→AV.str (nm k) ∉ (wbm nm j).map Prod.fst:=by
   intro j
   induction j with
   |zero=>intro _ hm;cases hm
   |succ j ih=>
    intro hj hm
    rw [List.range_succ,List.any_append,Bool.or_eq_false_iff] at hj
    rw [wbm,List.map_append,List.mem_append] at hm
    rcases hm with hm | hm
    ·exact ih hj.1 hm
    ·have:=List.mem_singleton.1 hm
     injection this with this
     have hj2:=hj.2
     simp [this.symm] at hj2
  refine ⟨?_,?_⟩
  ·rw [wbm,List.all_append,h1];rfl
  ·rw [wbm,List.map_append,List.nodup_append]
   refine ⟨h2,by simp,?_⟩
   intro a ha b hb hab
   obtain rfl:=List.mem_singleton.1 hb
   subst hab
   exact hmem k hf ha
theorem wqk (σ:Nat→Option Nat) (nm:Nat→List UInt8):∀ k,(wbm nm k).map (fun p=>(p.1.rn σ,p.2.rn σ))=wbm nm k
 |0=>rfl
 |k+1=>by rw [wbm,List.map_append,wqk σ nm k];rfl
def S_valV:Spec
 |[.agg [.str id,.str code,.str brand,.int .i64 d,.int .i64 c,.int .i64 a,.view 2 n f]],[]=>some (.int .i64 (valF id code brand d c a n (nmOf f) (vlOf f)),[],
   n≤4294967281∧code.length<4294967281∧brand.length<4294967281∧(∀ i,i<n→(nmOf f i).length<4294967281∧(vlOf f i).length<4294967281)∧f=weu (nmOf f) (vlOf f))
 |_,_=>none
def S_vw (n:Nat) (nm vl:Nat→List UInt8) (k:Nat):St:=⟨[(3,.map 0),(33,.view 2 n (weu nm vl)),(34,.int .i64 n),(35,.int .i64 k)],[(0,.amap (wbm nm k))],1,[]⟩
def L_vw (n:Nat) (nm vl:Nat→List UInt8):wau:=fun st Q=>canonIs te 0 [3,33,34,35] st (S_vw n nm vl 0)∧n≤12∧(∀ i,i<n→(nm i).length<4294967281∧(vl i).length<4294967281)∧
 waa (wdn nm vl n) (Q (.exit 1) ⟨[],[],0,[]⟩) (Q .ret ⟨[(2,.int .i64 94)],[],0,[]⟩)
structure PW where
 id:List UInt8
 code:List UInt8
 brand:List UInt8
 d:Int
 c:Int
 a:Int
structure VT where
 o:List UInt8
 p:List UInt8
 per:Int
 day:Int
 st:Int
 pr:Int
 rep:List UInt8
 deriving Inhabited
structure DT where
 o:List UInt8
 p:List UInt8
 per:Int
 dev:List UInt8
 num:Int
 deriving Inhabited
structure MG where
 dev:List UInt8
 seq:Int
 kind:Int
 v:VT
 d:DT
 deriving Inhabited
structure RW where
 o:List UInt8
 p:List UInt8
 per:Int
 u:Int
 tv:Int
 deriving Inhabited
def wb3 (o p:List UInt8) (per:Int):Bool:=wa7 o && wbq p && decide (0≤per) && decide (per≤5999)
def rowF (r:RW):Bool:=wb3 r.o r.p r.per && decide (1≤min r.u r.tv) && decide (max r.u r.tv≤1099511627776)
def visF (v:VT):Bool:=wb3 v.o v.p v.per && decide (0≤v.day) && decide (v.day≤182620) &&
 (bif decide (v.st=1) || decide (v.st=2) then decide (1≤v.pr) && decide (v.pr≤1099511627776) && decide (v.rep=[])
 else bif decide (v.st=3) || decide (v.st=4) then decide (v.pr=0) && decide (v.rep=[])
 else bif decide (v.st=5) then decide (1≤v.pr) && decide (v.pr≤1099511627776) && wbq v.rep && !decide (v.rep=v.p) else false)
def VT.nil (v:VT):Bool:=decide (v.o=[]) && (decide (v.p=[]) && (decide (v.per=0) && (decide (v.day=0) && (decide (v.st=0) && (decide (v.pr=0) && decide (v.rep=[]))))))
def DT.nil (d:DT):Bool:=decide (d.o=[]) && (decide (d.p=[]) && (decide (d.per=0) && (decide (d.dev=[]) && decide (d.num=0))))
def numF (n:Int):Bool:=decide (1≤n) && decide (n≤1048576)
def msgF (m:MG):Int:=bif !wa7 m.dev then 110 else bif !numF m.seq then 111 else bif !decide (m.kind=1) && !decide (m.kind=2) then 112
 else bif (decide (m.kind=1) && !visF m.v) || (decide (m.kind=2) && !m.v.nil) then 113
 else bif (decide (m.kind=1) && !m.d.nil) || (decide (m.kind=2) && !(wb3 m.d.o m.d.p m.d.per && wa7 m.d.dev && numF m.d.num)) then 114 else 0
def wkj:Spec
 |[.agg [.str id,.str code,.str brand,.int .i64 d,.int .i64 c,.int .i64 a,.nil]],[]=>some (.int .i64 (valF id code brand d c a 0 (fun _=>[]) (fun _=>[])),[],code.length<4294967281∧brand.length<4294967281)
 |_,_=>none
def wl1:Spec
 |[.int .i64 d],[]=>some (.bool (decide (0≤d) && decide (d≤182620)),[],True)
 |_,_=>none
def wgs:Spec
 |[.str s],[]=>some (.bool (wa7 s),[],s.length<4294967281)
 |_,_=>none
def wdq:Spec
 |[.str o,.str p,.int .i64 per],[]=>some (.bool (wb3 o p per),[],o.length<4294967281)
 |_,_=>none
def wk1:Spec
 |[.int .i64 n],[]=>some (.bool (numF n),[],True)
 |_,_=>none
def wgi:Spec
 |[.int .i64 d],[]=>some (.int .i64 (bif decide (0≤d) && decide (d≤182620) then d % 7 else -1),[],True)
 |_,_=>none
def wkg:Spec
 |[.agg [.str o,.str p,.int .i64 per,.int .i64 day,.int .i64 st,.int .i64 pr,.str rep]],[]=>some (.bool (visF ⟨o,p,per,day,st,pr,rep⟩),[],o.length<4294967281)
 |_,_=>none
def wey:Spec
 |[.agg [.str dev,.int .i64 seq,.int .i64 kind,.str o,.str p,.int .i64 per,.int .i64 day,.int .i64 st,.int .i64 pr,.str rep,.str o',.str p',.int .i64 per',.str dev',.int .i64 num]],[]=>
   some (.int .i64 (msgF ⟨dev,seq,kind,⟨o,p,per,day,st,pr,rep⟩,⟨o',p',per',dev',num⟩⟩),[],dev.length<4294967281∧o.length<4294967281∧o'.length<4294967281∧dev'.length<4294967281)
 |_,_=>none
def keyC (a b:RW):Int:=orL [cmpS a.o b.o,cmpS a.p b.p,cmpI a.per b.per]
theorem wyj:PreC keyC:=(wga.comap RW.o).or ((wga.comap RW.p).or ((wh7.comap RW.per).or .nil))
def wa1 (a b:RW):Bool:=decide (a.o=b.o) && decide (a.p=b.p) && decide (a.per=b.per)
theorem wd1 {a b:RW}:wa1 a b=true↔a.o=b.o∧a.p=b.p∧a.per=b.per:=by simp [wa1,and_assoc]
theorem wqm (a:RW):wa1 a a=true:=wd1.2 ⟨rfl,rfl,rfl⟩
theorem wis {a b:RW} (h:wa1 a b=true):wa1 b a=true:=by
 obtain ⟨h1,h2,h3⟩:=wd1.1 h
 exact wd1.2 ⟨h1.symm,h2.symm,h3.symm⟩
theorem wir {a b c:RW} (h:wa1 a b=true) (k:wa1 b c=true):wa1 a c=true:=by
 obtain ⟨h1,h2,h3⟩:=wd1.1 h
 obtain ⟨k1,k2,k3⟩:=wd1.1 k
 exact wd1.2 ⟨h1.trans k1,h2.trans k2,h3.trans k3⟩
theorem wnm {a b:RW} (h:wa1 a b=true) (c:RW):wa1 a c=wa1 b c:=by
 obtain ⟨h1,h2,h3⟩:=wd1.1 h
 unfold wa1;rw [h1,h2,h3]
def sumU (x:RW):List RW→Int
 |[]=>0
 |r::l=>(bif wa1 x r then r.u else 0)+sumU x l
def sumT (x:RW):List RW→Int
 |[]=>0
 |r::l=>(bif wa1 x r then r.tv else 0)+sumT x l
theorem wne (x:RW):∀ (l l':List RW),sumU x (l++l')=sumU x l+sumU x l'
 |[],l'=>by simp [sumU]
 |r::l,l'=>by rw [List.cons_append,sumU,sumU,wne x l l'];omega
theorem wnf (x:RW):∀ (l l':List RW),sumT x (l++l')=sumT x l+sumT x l'
 |[],l'=>by simp [sumT]
 |r::l,l'=>by rw [List.cons_append,sumT,sumT,wnf x l l'];omega
theorem wg2 {x y:RW} (h:wa1 x y=true):∀ l,sumU x l=sumU y l
 |[]=>rfl
 |r::l=>by rw [sumU,sumU,wg2 h l,wnm h]
theorem wg3 {x y:RW} (h:wa1 x y=true):∀ l,sumT x l=sumT y l
 |[]=>rfl
 |r::l=>by rw [sumT,sumT,wg3 h l,wnm h]
theorem wp9 {x:RW}:∀ {l:List RW},(∀ r∈l,wa1 x r=false)→sumU x l=0
 |[],_=>rfl
 |r::l,h=>by rw [sumU,h r (List.mem_cons_self ..),wp9 fun r' hr=>h r' (List.mem_cons_of_mem _ hr)];rfl
theorem wqa {x:RW}:∀ {l:List RW},(∀ r∈l,wa1 x r=false)→sumT x l=0
 |[],_=>rfl
 |r::l,h=>by rw [sumT,h r (List.mem_cons_self ..),wqa fun r' hr=>h r' (List.mem_cons_of_mem _ hr)];rfl
structure IsSums (l out:List RW):Prop where
 parts:out.Pairwise fun a b=>wa1 a b=false
 sums:∀ r∈out,(∃ x∈l,wa1 r x=true)∧r.u=sumU r l∧r.tv=sumT r l
 all:∀ x∈l,∃ r∈out,wa1 x r=true
theorem IsSums.nil:IsSums [] []:=⟨.nil,fun _ h=>(by cases h),fun _ h=>(by cases h)⟩
theorem RW.ext' {a b:RW} (h:wa1 a b=true) (hu:a.u=b.u) (ht:a.tv=b.tv):a=b:=by
 obtain ⟨h1,h2,h3⟩:=wd1.1 h
 cases a;cases b;simp_all
theorem IsSums.mem_iff {l out out':List RW} (h:IsSums l out) (h':IsSums l out') (x:RW):x∈out↔x∈out':=by
 have key:∀ {o1 o2:List RW},IsSums l o1→IsSums l o2→x∈o1→x∈o2:=fun k1 k2 hx=>by
  obtain ⟨⟨y,hy,hs⟩,e1,e2⟩:=k1.sums x hx
  obtain ⟨r,hr,hs'⟩:=k2.all y hy
  obtain ⟨_,f1,f2⟩:=k2.sums r hr
  have hxr:=wir hs hs'
  rw [RW.ext' hxr (by rw [e1,f1,wg2 hxr]) (by rw [e2,f2,wg3 hxr])];exact hr
 exact ⟨key h h',key h' h⟩
theorem IsSums.uniq {l out out':List RW} (h:IsSums l out) (h':IsSums l out') (a:Asc keyC out) (a':Asc keyC out'):out=out':=
 Asc.uniq wyj a a' (h.mem_iff h')
def getK:List RW→RW→Option RW
 |[],_=>none
 |r::l,x=>bif wa1 r x then some r else getK l x
def setK:List RW→RW→List RW
 |[],x=>[x]
 |r::l,x=>bif wa1 r x then x::l else r::setK l x
def addK (out:List RW) (r:RW):RW:=⟨r.o,r.p,r.per,r.u+((getK out r).map RW.u).getD 0,r.tv+((getK out r).map RW.tv).getD 0⟩
theorem w0y (out:List RW) (r:RW):wa1 (addK out r) r=true:=wd1.2 ⟨rfl,rfl,rfl⟩
theorem wst:∀ {l:List RW} {x r:RW},getK l x=some r→r∈l∧wa1 r x=true
 |[],_,_,h=>by cases h
 |r'::l,x,r,h=>by
  rw [getK] at h
  cases q:wa1 r' x with
  |true=>rw [q] at h;obtain rfl:=Option.some.inj h;exact ⟨List.mem_cons_self ..,q⟩
  |false=>rw [q] at h;obtain ⟨h1,h2⟩:=wst (l:=l) h;exact ⟨List.mem_cons_of_mem _ h1,h2⟩
theorem wsu:∀ {l:List RW} {x:RW},getK l x=none→∀ r∈l,wa1 r x=false
 |[],_,_,_,h=>by cases h
 |r'::l,x,h,r,hr=>by
  rw [getK] at h
  cases q:wa1 r' x with
  |true=>rw [q] at h;cases h
  |false=>
   rw [q] at h
   rcases List.mem_cons.1 hr with rfl | hr
   ·exact q
   ·exact wsu (l:=l) h r hr
theorem wnk:∀ (l:List RW) (x:RW),x∈setK l x
 |[],x=>by simp [setK]
 |r::l,x=>by
  rw [setK]
  cases q:wa1 r x with
  |true=>exact List.mem_cons_self ..
  |false=>exact List.mem_cons_of_mem _ (wnk l x)
theorem wqi:∀ {l:List RW} {x y:RW},y∈l→wa1 y x=false→y∈setK l x
 |[],_,_,h,_=>by cases h
 |r::l,x,y,h,hn=>by
  rw [setK]
  cases q:wa1 r x with
  |true=>
   rcases List.mem_cons.1 h with rfl | h
   ·rw [hn] at q;cases q
   ·exact List.mem_cons_of_mem _ h
  |false=>
   rcases List.mem_cons.1 h with rfl | h
   ·exact List.mem_cons_self ..
   ·exact List.mem_cons_of_mem _ (wqi h hn)
theorem wvc {a b:RW} (h:wa1 a b=false):wa1 b a=false:=by
 cases q:wa1 b a with
 |false=>rfl
 |true=>rw [wis q] at h;cases h
theorem wqh:∀ {l:List RW} (x:RW),(l.Pairwise fun a b=>wa1 a b=false)→((setK l x).Pairwise fun a b=>wa1 a b=false)∧∀ y,y∈setK l x→y=x∨(y∈l∧wa1 y x=false)
 |[],x,_=>⟨by simp [setK],fun y h=>.inl (by simpa [setK] using h)⟩
 |r::l,x,h=>by
  obtain ⟨h1,h2⟩:=List.pairwise_cons.1 h
  rw [setK]
  cases q:wa1 r x with
  |true=>
   have hl:∀ y∈l,wa1 x y=false:=fun y hy=>by rw [← wnm q];exact h1 y hy
   refine ⟨List.pairwise_cons.2 ⟨hl,h2⟩,fun y hy=>?_⟩
   rcases List.mem_cons.1 hy with rfl | hy
   ·exact .inl rfl
   ·exact .inr ⟨List.mem_cons_of_mem _ hy,wvc (hl y hy)⟩
  |false=>
   obtain ⟨i1,i2⟩:=wqh (l:=l) x h2
   refine ⟨List.pairwise_cons.2 ⟨fun y hy=>?_,i1⟩,fun y hy=>?_⟩
   ·rcases i2 y hy with rfl | ⟨h,_⟩
    ·exact q
    ·exact h1 y h
   ·rcases List.mem_cons.1 hy with rfl | hy
    ·exact .inr ⟨List.mem_cons_self ..,q⟩
    ·rcases i2 y hy with h | ⟨h,h'⟩
     ·exact .inl h
     ·exact .inr ⟨List.mem_cons_of_mem _ h,h'⟩
theorem IsSums.got {l out:List RW} (h:IsSums l out) (r:RW):((getK out r).map RW.u).getD 0=sumU r l∧((getK out r).map RW.tv).getD 0=sumT r l:=by
 cases q:getK out r with
 |some e=>
  obtain ⟨h1,h2⟩:=wst q
  obtain ⟨_,h3,h4⟩:=h.sums e h1
  exact ⟨h3.trans (wg2 h2 l),h4.trans (wg3 h2 l)⟩
 |none=>
  have hn:∀ x∈l,wa1 r x=false:=fun x hx=>by
   obtain ⟨e,he,hs⟩:=h.all x hx
   cases q':wa1 r x with
   |false=>rfl
   |true=>have:=wsu q e he;rw [wis (wir q' hs)] at this;cases this
  exact ⟨(wp9 hn).symm,(wqa hn).symm⟩
theorem IsSums.step {l out:List RW} (h:IsSums l out) (r:RW):IsSums (l++[r]) (setK out (addK out r)):=by
 obtain ⟨p1,p2⟩:=wqh (addK out r) h.parts
 obtain ⟨g1,g2⟩:=h.got r
 have hs:=w0y out r
 refine ⟨p1,fun y hy=>?_,fun x hx=>?_⟩
 ·rcases p2 y hy with rfl | ⟨h1,h2⟩
  ·refine ⟨⟨r,by simp,hs⟩,?_,?_⟩
   ·rw [wne,wg2 hs,wg2 hs,sumU,sumU,wqm]
    show r.u+_=_
    rw [g1];show r.u+_=_+(r.u+0);omega
   ·rw [wnf,wg3 hs,wg3 hs,sumT,sumT,wqm]
    show r.tv+_=_
    rw [g2];show r.tv+_=_+(r.tv+0);omega
  ·obtain ⟨⟨x,hx,hxs⟩,e1,e2⟩:=h.sums y h1
   have hne:wa1 y r=false:=by
    cases q:wa1 y r with
    |false=>rfl
    |true=>rw [wir q (wis hs)] at h2;cases h2
   refine ⟨⟨x,by simp [hx],hxs⟩,?_,?_⟩
   ·rw [wne,sumU,sumU,hne];show _=_+(0+0);omega
   ·rw [wnf,sumT,sumT,hne];show _=_+(0+0);omega
 ·rcases List.mem_append.1 hx with hx | hx
  ·obtain ⟨e,he,hes⟩:=h.all x hx
   cases q:wa1 e (addK out r) with
   |true=>exact ⟨_,wnk _ _,wir hes q⟩
   |false=>exact ⟨e,wqi he q,hes⟩
  ·obtain rfl:x=r:=by simpa using hx
   exact ⟨_,wnk _ _,wis hs⟩
theorem Asc.insert {α:Type} {c:α→α→Int} {a b:List α} {x:α} (h:Asc c (a++b)) (ha:∀ y∈a,c y x<0) (hb:∀ y∈b,c x y<0):Asc c (a++x::b):=by
 obtain ⟨h1,h2,h3⟩:=List.pairwise_append.1 h
 refine List.pairwise_append.2 ⟨h1,List.pairwise_cons.2 ⟨hb,h2⟩,fun y hy z hz=>?_⟩
 rcases List.mem_cons.1 hz with rfl | hz
 ·exact ha y hy
 ·exact h3 y hy z hz
def wsd (cs:List AV) (j:Nat):Bool:=match cs[j]? with
 |some .nil=>true
 |_=>false
theorem wam:∀ O:List (Nat×AObj),wac O O
 |[]=>trivial
 |(r,o)::l=>by
  have ih:=wam l
  cases o
  case row=>exact ⟨⟨rfl,rfl,rfl,rfl,rfl,fun _ _=>rfl⟩,ih⟩
  all_goals exact ⟨rfl,ih⟩
def nilVC (r j sz:Nat) (f:Nat→List AV) (s:St):St:=match lk s.O r with
 |some (.cells cs ct)=>match wsd cs j with
  |true=>⟨s.T,(r,.cells (cs.set j (.view sz 0 f)) ct)::rm r s.O,s.nx,[]⟩
  |false=>s
 |_=>s
theorem RepS.nilVC {C:Ctx} {E:Ent} {N:Nat} {s:St} {bs:Nat→Option Hd} {a:Act} {w:World} (r0 j0 sz:Nat) (f:Nat→List AV) (h:RepS C E N s bs a w):RepS C E N (nilVC r0 j0 sz f s) bs a w:=by
 unfold Eng.nilVC
 split
 ·rename_i cs ct hd
  split
  ·rename_i hnil
   have hnil:cs[j0]?=some .nil:=by
    unfold wsd at hnil
    split at hnil
    ·assumption
    ·cases hnil
   obtain ⟨T,O,nx,dec⟩:=s
   obtain ⟨⟨hF,hW⟩,hnx,hm⟩:=h
   have hd:lk O r0=some (.cells cs ct):=hd
   let O':List (Nat×AObj):=(r0,.cells (cs.set j0 (.view sz 0 f)) ct)::rm r0 O
   have hlk:∀ r o,lk O' r=some o→(r=r0∧o= .cells (cs.set j0 (.view sz 0 f)) ct)∨(r≠r0∧lk O r=some o):=fun r o ho=>by
    have ho:lk ((r0,.cells (cs.set j0 (.view sz 0 f)) ct)::rm r0 O) r=some o:=ho
    rw [wd4,waw] at ho
    split at ho
    ·rename_i e
     have e:r0=r:=e
     exact .inl ⟨e.symm,(Option.some.inj ho).symm⟩
    ·rename_i e
     exact .inr ⟨fun e'=>e e'.symm,ho⟩
   have hback:∀ r o,lk O r=some o→∃ o',lk O' r=some o'∧o'.mut=o.mut:=fun r o ho=>by
    show ∃ o',lk ((r0,.cells (cs.set j0 (.view sz 0 f)) ct)::rm r0 O) r=some o'∧o'.mut=o.mut
    rw [wd4,waw]
    by_cases e:r0=r
    ·subst e
     rw [hd] at ho
     obtain rfl:=Option.some.inj ho
     exact ⟨.cells (cs.set j0 (.view sz 0 f)) ct,by simp,rfl⟩
    ·exact ⟨o,by simp [e,ho],rfl⟩
   have hold:∀ r o,lk O' r=some o→∃ o',lk O r=some o'∧o'.mut=o.mut:=fun r o ho=>by
    rcases hlk r o ho with ⟨rfl,rfl⟩ | ⟨_,h2⟩
    ·exact ⟨_,hd,rfl⟩
    ·exact ⟨_,h2,rfl⟩
   have hMB:MB E (lk O') bs=MB E (lk O) bs:=by
    funext b
    apply propext
    constructor
    ·rintro (h | ⟨r,o,c,h1,h2,h3⟩)
     ·exact .inl h
     ·obtain ⟨o',q1,q2⟩:=hold r o h1
      exact .inr ⟨r,o',c,q1,q2.trans h2,h3⟩
    ·rintro (h | ⟨r,o,c,h1,h2,h3⟩)
     ·exact .inl h
     ·obtain ⟨o',q1,q2⟩:=hback r o h1
      exact .inr ⟨r,o',c,q1,q2.trans h2,h3⟩
   have hmb:∀ b,mutB (lk O') bs b→mutB (lk O) bs b:=fun b ⟨r,o,c,h1,h2,h3⟩=>by
    obtain ⟨o',q1,q2⟩:=hold r o h1
    exact ⟨r,o',c,q1,q2.trans h2,h3⟩
   refine ⟨⟨?_,?_⟩,fun r hr=>⟨?_,(hnx r hr).2⟩,hm⟩
   ·show FRep w (MB E (lk O') bs) bs N (lk T) a
    rw [hMB];exact hF
   ·exact {
     obj:=fun r o ho=>by
      rw [hMB]
      rcases hlk r o ho with ⟨rfl,rfl⟩ | ⟨hne,ho⟩
      ·obtain ⟨b,c,vs,q1,q2,q3,q4,q5⟩:=hW.obj r _ hd
       refine ⟨b,c,vs,q1,q2,by rw [List.length_set];exact q3,q4,fun j v u hv hu=>?_⟩
       by_cases hj:j0=j
       ·subst hj
        have hlt:j0<cs.length:=by
         rcases Nat.lt_or_ge j0 cs.length with h | h
         ·exact h
         ·rw [List.getElem?_eq_none h] at hnil;cases hnil
        rw [List.getElem?_set_self hlt] at hu
        obtain rfl:=Option.some.inj hu
        have hV:=q5 j0 v _ hv hnil
        cases hV
        exact .view ⟨0,0,none⟩ (fun _ _=>undef) (Nat.le_refl _) (Nat.zero_le _) (fun h=>by omega) (fun i hi=>by omega) (fun i hi=>by omega) (fun i hi=>by omega) (fun i hi=>by omega)
       ·rw [List.getElem?_set_ne hj] at hu
        exact q5 j v u hv hu
      ·exact hW.obj r o ho
     sep:=fun r r' o1 o2 b c c' h1 h2 m1 m2 b1 b2=>by
      obtain ⟨o1',p1,p2⟩:=hold r o1 h1
      obtain ⟨o2',p3,p4⟩:=hold r' o2 h2
      exact hW.sep r r' o1' o2' b c c' p1 p3 (p2.trans m1) (p4.trans m2) b1 b2
     out:=fun b hb=>hW.out b (hmb b hb)
     frz:=fun r t' sz' n f b c ho hb=>by
      rw [hMB]
      rcases hlk r _ ho with ⟨rfl,h⟩ | ⟨hne,ho⟩
      ·cases h
      ·exact hW.frz r t' sz' n f b c ho hb
     high:=fun b hb=>hW.high b (by rw [← hMB];exact hb)
     lt:=hW.lt
     outlt:=hW.outlt
     keep:=hW.keep
     old:=fun b hb=>hW.old b (hmb b hb)
     size:=hW.size
     pre:=hW.pre
     os:=hW.os
     tape:=hW.tape
     output:=hW.output
     laid:=hW.laid
     gle:=hW.gle }
   ·show lk O' r=none
    cases ho:lk O' r with
    |none=>rfl
    |some o=>
     obtain ⟨o',p1,_⟩:=hold r o ho
     rw [(hnx r hr).1] at p1;cases p1
  ·exact h
 ·exact h
theorem AWP.nilVC {C:Ctx} {m N:Nat} {c:Code} {Q:Exit→St→Prop} {s:St} (r j sz:Nat) (f:Nat→List AV) (h:AWP C m N c Q (Eng.nilVC r j sz f s)):AWP C m N c Q s:=by
 intro E hE bs a w hr
 exact h E hE bs a w (hr.nilVC r j sz f)
def nilVP (d j sz:Nat) (f:Nat→List AV) (s:St):St:=match lk s.T d with
 |some (.ptr r i)=>Eng.nilVC r (i+j) sz f s
 |_=>s
theorem AWP.nilVP {C:Ctx} {m N:Nat} {c:Code} {Q:Exit→St→Prop} {s:St} (d j sz:Nat) (f:Nat→List AV) (h:AWP C m N c Q (Eng.nilVP d j sz f s)):AWP C m N c Q s:=by
 unfold Eng.nilVP at h
 split at h
 ·exact AWP.nilVC _ _ sz f h
 ·exact h
theorem wdg {α:Type} (d:Nat):∀ (l:List (Nat×α)) (i:Nat) (u:α),lk (rm d l) i=some u→d≠i∧lk l i=some u
 |[],i,u,h=>by cases h
 |(j,x)::l,i,u,h=>by
  simp only [rm] at h
  split at h
  ·rename_i e
   have e:=Nat.eq_of_beq_eq_true e
   obtain ⟨h1,h2⟩:=wdg d l i u h
   refine ⟨h1,?_⟩
   rw [waw]
   have:¬ j=i:=fun q=>h1 (e.symm.trans q)
   simp only [this,if_false];exact h2
  ·rename_i e
   rw [waw] at h ⊢
   have hjd:¬ j=d:=fun q=>by subst q;rw [Nat.beq_refl] at e;cases e
   by_cases q:j=i
   ·simp only [q,if_true] at h ⊢
    exact ⟨fun q'=>hjd (q.trans q'.symm),h⟩
   ·simp only [q,if_false] at h ⊢
    exact wdg d l i u h
def frzA (r sz n:Nat) (f:Nat→List AV):AV→AV
 |.agg cs=>.agg (cs.map (frz r sz n f))
 |u=>frz r sz n f u
def frzC (r sz n:Nat) (f:Nat→List AV):AV→AV
 |.tuple cs=>.tuple (cs.map (frzA r sz n f))
 |u=>frzA r sz n f u
section
variable {C:Ctx} {E:Ent} {O:Nat→Option AObj} {bs:Nat→Option Hd} {w:World} {r:Nat} {t:TypeId} {sz n:Nat} {f:Nat→List AV}
theorem V.frz (hW:WRep C E O bs w) (hr0:O r=some (.row t sz n f true)) (hf:∀ i,i<n→nrefL (f i)=true):∀ {v u},V w (MB E O bs) bs v u→V w (MB E O bs) bs v (Eng.frz r sz n f u):=by
 have hrow:=hW.obj r _ hr0
 intro v u hV
 cases u with
 |own r' n'=>
  simp only [Eng.frz]
  split
  ·rename_i hc
   simp only [Bool.and_eq_true] at hc
   have hr:=Nat.eq_of_beq_eq_true hc.1
   have hn':n'≤n:=Nat.le_of_ble_eq_true hc.2
   subst hr
   cases hV with
   |own hb hn hcm=>
    rename_i b c
    rcases hrow with ⟨h1,_⟩ | ⟨b',c',vs,h1,h2,h3,h4,h5,h6,h7,h8⟩
    ·rw [h1] at hb;cases hb
    ·rw [h1] at hb
     injection hb with hb
     injection hb with e1 e2
     subst e1;subst e2
     have hlt:b'<w.heap.size:=(Array.getElem?_eq_some_iff.1 h2).1
     have inb:∀ i,i<n'→∀ j,j<sz→i * sz+j<vs.size:=by
      intro i hi j hj
      rw [h5]
      have:(i+1) * sz≤c' * sz:=Nat.mul_le_mul_right sz (by omega)
      rw [Nat.add_mul,Nat.one_mul] at this
      omega
     refine .view ⟨b',0,none⟩ (fun i j=>vs.getD (i * sz+j) undef) hn hcm (fun _=>⟨rfl,hW.frz _ t sz n f _ _ hr0 h1,hlt⟩) (fun i hi=>h6 i (by omega)) (fun i hi j hj=>?_) (fun i hi j hj=>?_) fun i hi j u hu=>?_
     ·have:=inb i hi j hj
      rw [Addr.add_lit,Nat.zero_add,cell_of_row w b' (i * sz+j) vs t (0,0) h2]
      simp [this]
     ·have:=inb i hi j hj
      exact h7 i (by omega) j hj _ (by simp [this])
     ·have hj:j<sz:=by rw [← h6 i (by omega)];exact (List.getElem?_eq_some_iff.1 hu).1
      have:=inb i hi j hj
      exact (h8 i (by omega) j _ u hj (by simp [this]) hu).free (fun _ _ h=>h) (fun _ _ _=>rfl) (Nat.le_refl _) nob (wfb (hf i (by omega)) j u hu)
   |ownnil hb hn=>
    subst hn
    exact .view ⟨0,0,none⟩ (fun _ _=>undef) (Nat.le_refl _) (Nat.zero_le _) (fun h=>by omega) (fun i hi=>by omega) (fun i hi=>by omega) (fun i hi=>by omega) (fun i hi=>by omega)
  ·exact hV
 |_=>exact hV
theorem V.frzA (hW:WRep C E O bs w) (hr0:O r=some (.row t sz n f true)) (hf:∀ i,i<n→nrefL (f i)=true) {v:Value} {u:AV} (h:V w (MB E O bs) bs v u):V w (MB E O bs) bs v (Eng.frzA r sz n f u):=by
 cases u with
 |agg cs=>
  cases h with
  |agg hl h1 hv=>
   refine .agg (by rw [List.length_map];exact hl) h1 fun j v u hj hu=>?_
   rw [List.getElem?_map] at hu
   obtain ⟨u0,hu0,rfl⟩:=Option.map_eq_some_iff.1 hu
   exact V.frz hW hr0 hf (hv j v u0 hj hu0)
 |_=>exact V.frz hW hr0 hf h
theorem V.frzC (hW:WRep C E O bs w) (hr0:O r=some (.row t sz n f true)) (hf:∀ i,i<n→nrefL (f i)=true) {v:Value} {u:AV} (h:V w (MB E O bs) bs v u):V w (MB E O bs) bs v (Eng.frzC r sz n f u):=by
 cases u with
 |tuple cs=>
  cases h with
  |tuple hl hv=>
   refine .tuple (by rw [List.length_map];exact hl) fun j v u hj hu=>?_
   rw [List.getElem?_map] at hu
   obtain ⟨u0,hu0,rfl⟩:=Option.map_eq_some_iff.1 hu
   exact V.frzA hW hr0 hf (hv j v u0 hj hu0)
 |_=>exact V.frzA hW hr0 hf h
theorem WRep.less {O':Nat→Option AObj} (hW:WRep C E O bs w) (hO:∀ k o,O' k=some o→O k=some o):Step w (MB E O bs) bs w (MB E O' bs) bs∧WRep C E O' bs w:=by
 have hmb:∀ b,mutB O' bs b→mutB O bs b:=fun b ⟨r,o,c,h1,h2,h3⟩=>⟨r,o,c,hO r o h1,h2,h3⟩
 have hMB:∀ b,MB E O' bs b→MB E O bs b:=fun b hb=>hb.imp id (hmb b)
 have hS:Step w (MB E O bs) bs w (MB E O' bs) bs:=⟨fun _ _ h=>h,fun b _ hb hb'=>hb (hMB b hb'),fun _ _ _=>rfl,Nat.le_refl _⟩
 exact ⟨hS,{
  obj:=fun r o ho=>(hW.obj r o (hO r o ho)).step hS fun _ _ _=>rfl
  sep:=fun r r' o1 o2 b c c' h1 h2 m1 m2 b1 b2=>hW.sep r r' o1 o2 b c c' (hO _ _ h1) (hO _ _ h2) m1 m2 b1 b2
  out:=fun b hb=>hW.out b (hmb b hb)
  frz:=fun r t' sz' n f b c ho hb hM=>hW.frz r t' sz' n f b c (hO _ _ ho) hb (hMB b hM)
  high:=fun b hb=>hW.high b (hMB b hb)
  lt:=hW.lt
  outlt:=hW.outlt
  keep:=hW.keep
  old:=fun b hb=>hW.old b (hmb b hb)
  size:=hW.size
  pre:=hW.pre
  os:=hW.os
  tape:=hW.tape
  output:=hW.output
  laid:=hW.laid
  gle:=hW.gle }⟩
end
def frzR (r:Nat) (R:AV→List (Nat×AObj)→Prop) (u:AV) (O:List (Nat×AObj)):Prop:=
 ∃ t sz n g fr,lk O r=some (.row t sz n g fr)∧(∀ i,i<n→nrefL (g i)=true)∧R (frzC r sz n g u) (rm r O)
theorem wag.frz {C:Ctx} {f:FuncId} {args:List AV} {objs:List AObj} {R:AV→List (Nat×AObj)→Prop} (r:Nat) (h:wag C f args objs (frzR r R)):wag C f args objs R:=by
 refine ⟨h.1,fun E bs w cargs h1 h2 h3 h4 h5 h6 h7=>?_⟩
 refine (h.2 E bs w cargs h1 h2 h3 h4 h5 h6 h7).mono ?_
 rintro e w' ⟨v,u,O',bs',r1,⟨t,sz,n,g,fr,hO,hg,hR⟩,r3,r4,r5⟩
 obtain ⟨hS,hW1⟩:=r3.freeze hO
 have hV:=V.frzC hW1 (wap _ _ _) hg (r4.step hS)
 obtain ⟨hS2,hW2⟩:=hW1.less (O':=lk (rm r O')) fun k o hk=>by
  obtain ⟨q1,q2⟩:=wdg r O' k o hk
  rw [wal _ _ _ q1];exact q2
 refine ⟨v,_,rm r O',bs',r1,hR,hW2,hV.step hS2,fun k hk=>⟨?_,(r5 k hk).2⟩⟩
 cases hx:lk (rm r O') k with
 |none=>rfl
 |some o=>
  have:=(wdg r O' k o hx).2
  rw [(r5 k hk).1] at this;cases this
def nilv (sz:Nat) (f:Nat→List AV):AV→AV
 |.nil=>.view sz 0 f
 |u=>u
def nilvA (sz:Nat) (f:Nat→List AV):AV→AV
 |.agg cs=>.agg (cs.map (nilv sz f))
 |u=>nilv sz f u
def nilvC (sz:Nat) (f:Nat→List AV):AV→AV
 |.tuple cs=>.tuple (cs.map (nilvA sz f))
 |u=>nilvA sz f u
section
variable {w:World} {M:Nat→Prop} {bs:Nat→Option Hd} {sz:Nat} {f:Nat→List AV}
theorem V.nilv {v:Value} {u:AV} (h:V w M bs v u):V w M bs v (Eng.nilv sz f u):=by
 cases u with
 |nil=>cases h;exact .view ⟨0,0,none⟩ (fun _ _=>undef) (Nat.le_refl _) (Nat.zero_le _) (fun h=>by omega) (fun i hi=>by omega) (fun i hi=>by omega) (fun i hi=>by omega) (fun i hi=>by omega)
 |_=>exact h
theorem V.nilvA {v:Value} {u:AV} (h:V w M bs v u):V w M bs v (Eng.nilvA sz f u):=by
 cases u with
 |agg cs=>
  cases h with
  |agg hl h1 hv=>
   refine .agg (by rw [List.length_map];exact hl) h1 fun j v u hj hu=>?_
   rw [List.getElem?_map] at hu
   obtain ⟨u0,hu0,rfl⟩:=Option.map_eq_some_iff.1 hu
   exact V.nilv (hv j v u0 hj hu0)
 |_=>exact V.nilv (sz:=sz) (f:=f) h
theorem V.nilvC {v:Value} {u:AV} (h:V w M bs v u):V w M bs v (Eng.nilvC sz f u):=by
 cases u with
 |tuple cs=>
  cases h with
  |tuple hl hv=>
   refine .tuple (by rw [List.length_map];exact hl) fun j v u hj hu=>?_
   rw [List.getElem?_map] at hu
   obtain ⟨u0,hu0,rfl⟩:=Option.map_eq_some_iff.1 hu
   exact V.nilvA (hv j v u0 hj hu0)
 |_=>exact V.nilvA (sz:=sz) (f:=f) h
end
theorem wag.nilv {C:Ctx} {g:FuncId} {args:List AV} {objs:List AObj} {R:AV→List (Nat×AObj)→Prop} (sz:Nat) (f:Nat→List AV) (h:wag C g args objs fun u O=>R (nilvC sz f u) O):wag C g args objs R:=by
 refine ⟨h.1,fun E bs w cargs h1 h2 h3 h4 h5 h6 h7=>?_⟩
 refine (h.2 E bs w cargs h1 h2 h3 h4 h5 h6 h7).mono ?_
 rintro e w' ⟨v,u,O',bs',r1,r2,r3,r4,r5⟩
 exact ⟨v,_,O',bs',r1,r2,r3,V.nilvC r4,r5⟩
theorem lkL_set {objs:List AObj} {r:Nat} {x:AObj} (h:r<objs.length):lkL (objs.set r x)=up (lkL objs) r x:=by
 funext k
 unfold lkL
 by_cases e:r=k
 ·subst e
  rw [wap,List.getElem?_set_self h]
 ·rw [wal _ _ _ e,List.getElem?_set_ne e]
theorem wag.nilArg {C:Ctx} {g:FuncId} {args:List AV} {objs:List AObj} {R:AV→List (Nat×AObj)→Prop} (sz:Nat) (f:Nat→List AV) (h:wag C g (args.map (nilvA sz f)) objs R):wag C g args objs R:=by
 refine ⟨h.1,fun E bs w cargs h1 h2 h3 h4 h5 h6 h7=>?_⟩
 refine h.2 E bs w cargs h1 h2 h3 h4 h5 (by rw [List.length_map];exact h6) fun j v u hv hu=>?_
 rw [List.getElem?_map] at hu
 obtain ⟨u0,hu0,rfl⟩:=Option.map_eq_some_iff.1 hu
 exact V.nilvA (h7 j v u0 hv hu0)
def frzT (r sz n:Nat) (g:Nat→List AV):List (Nat×AV)→List (Nat×AV)
 |[]=>[]
 |p::l=>(p.1,frzC r sz n g p.2)::frzT r sz n g l
def frzSt (r:Nat) (s:St):St:=match lk s.O r with
 |some (.row _ sz n g _)=>⟨frzT r sz n g s.T,rm r s.O,s.nx,s.dec⟩
 |_=>s
def wfl (r:Nat) (s:St):Prop:=match lk s.O r with
 |some (.row _ _ n g _)=>∀ i,i<n→nrefL (g i)=true
 |_=>True
theorem wod {r sz n:Nat} {g:Nat→List AV}:∀ {T:List (Nat×AV)} {i:Nat} {u:AV},lk (frzT r sz n g T) i=some u→∃ u0,lk T i=some u0∧u=frzC r sz n g u0
 |[],i,u,h=>by cases h
 |p::T,i,u,h=>by
  rw [frzT,waw] at h
  rw [waw]
  by_cases e:p.1=i
  ·rw [if_pos e] at h ⊢
   exact ⟨_,rfl,(Option.some.inj h).symm⟩
  ·rw [if_neg e] at h ⊢
   exact wod h
theorem RepS.frz {C:Ctx} {E:Ent} {N:Nat} {s:St} {bs:Nat→Option Hd} {a:Act} {w:World} (h:RepS C E N s bs a w) (r:Nat) (hf:wfl r s):RepS C E N (frzSt r s) bs a w:=by
 unfold frzSt
 unfold wfl at hf
 split
 ·rename_i t sz n g fr hO
  rw [hO] at hf
  obtain ⟨⟨hF,hW⟩,hnx,hm⟩:=h
  obtain ⟨hS,hW1⟩:=hW.freeze hO
  have hF1:=hF.step hS
  obtain ⟨hS2,hW2⟩:=hW1.less (O':=lk (rm r s.O)) fun k o hk=>by
   obtain ⟨q1,q2⟩:=wdg r s.O k o hk
   rw [wal _ _ _ q1];exact q2
  refine ⟨⟨⟨hF.1,hF.2.1,fun i u hu=>?_⟩,hW2⟩,fun k hk=>⟨?_,(hnx k hk).2⟩,hm⟩
  ·obtain ⟨u0,h0,rfl⟩:=wod hu
   obtain ⟨v,hv,hV⟩:=hF1.2.2 i u0 h0
   exact ⟨v,hv,(V.frzC hW1 (wap _ _ _) hf hV).step hS2⟩
  ·show lk (rm r s.O) k=none
   cases hx:lk (rm r s.O) k with
   |none=>rfl
   |some o=>
    have:=(wdg r s.O k o hx).2
    rw [(hnx k hk).1] at this;cases this
 ·exact h
theorem AWP.frz {C:Ctx} {m N:Nat} {c:Code} {Q:Exit→St→Prop} {s:St} (r:Nat) (hf:wfl r s) (h:AWP C m N c Q (frzSt r s)):AWP C m N c Q s:=by
 intro E hE bs a w hr
 exact h E hE bs a w (hr.frz r hf)
def frzO (r:Nat) (R:AV→List (Nat×AObj)→Prop) (u:AV) (O:List (Nat×AObj)):Prop:=match lk O r with
 |some (.row _ sz n g _)=>(∀ i,i<n→nrefL (g i)=true)∧R (frzC r sz n g u) (rm r O)
 |_=>R u O
theorem wag.frzO {C:Ctx} {f:FuncId} {args:List AV} {objs:List AObj} {R:AV→List (Nat×AObj)→Prop} (r:Nat) (h:wag C f args objs (Eng.frzO r R)):wag C f args objs R:=by
 refine ⟨h.1,fun E bs w cargs h1 h2 h3 h4 h5 h6 h7=>?_⟩
 refine (h.2 E bs w cargs h1 h2 h3 h4 h5 h6 h7).mono ?_
 rintro e w' ⟨v,u,O',bs',r1,hR0,r3,r4,r5⟩
 unfold Eng.frzO at hR0
 split at hR0
 ·rename_i t sz n g fr hO
  obtain ⟨hg,hR⟩:=hR0
  obtain ⟨hS,hW1⟩:=r3.freeze hO
  have hV:=V.frzC hW1 (wap _ _ _) hg (r4.step hS)
  obtain ⟨hS2,hW2⟩:=hW1.less (O':=lk (rm r O')) fun k o hk=>by
   obtain ⟨q1,q2⟩:=wdg r O' k o hk
   rw [wal _ _ _ q1];exact q2
  refine ⟨v,_,rm r O',bs',r1,hR,hW2,hV.step hS2,fun k hk=>⟨?_,(r5 k hk).2⟩⟩
  cases hx:lk (rm r O') k with
  |none=>rfl
  |some o=>
   have:=(wdg r O' k o hx).2
   rw [(r5 k hk).1] at this;cases this
 ·exact ⟨v,u,O',bs',r1,hR0,r3,r4,r5⟩
def regP (G:Env) (x:Code) (Fe:List Nat) (Q:Exit→St→Prop) (s:St):Prop:=wpC G x (Eng.canQ G.te G.m Fe [] Q) s
theorem wae.reg {C:Ctx} {te:TE} (hte:Prg C te) {m N:Nat} {x:Code} {s S:St} {Q:Exit→St→Prop} (calls:List (Nat×CSpec)) (fuel:Nat) (hc:wcs C calls) (F Fe:List Nat)
  (h0:canonIs te m F s S) (h:regP ⟨te,calls,[],m,N,fuel⟩ x Fe Q S) (hS:wb9 S.O True):AWP C m N x Q s:=by
 have hG:EnvOK C ⟨te,calls,[],m,N,fuel⟩:=⟨hte.ok,hte.one,hc⟩
 exact AWP.canonIs F h0 (wc4 hG x _ _ (by rw [wde];intro p hp;simp at hp) h).canQ hS
theorem WRep.rowEq {C:Ctx} {E:Ent} {O:Nat→Option AObj} {bs:Nat→Option Hd} {w:World} (hW:WRep C E O bs w) {r0:Nat} {t sz n:Nat} {f f':Nat→List AV} {fr:Bool} (hd:O r0=some (.row t sz n f fr)) (hf:∀ i,i<n→f' i=f i):
  MB E (up O r0 (.row t sz n f' fr)) bs=MB E O bs∧WRep C E (up O r0 (.row t sz n f' fr)) bs w:=by
 have hlk:∀ r o,up O r0 (.row t sz n f' fr) r=some o→(r=r0∧o= .row t sz n f' fr)∨(r≠r0∧O r=some o):=fun r o ho=>by
  by_cases e:r0=r
  ·subst e
   rw [wap] at ho
   exact .inl ⟨rfl,(Option.some.inj ho).symm⟩
  ·rw [wal _ _ _ e] at ho
   exact .inr ⟨fun e'=>e e'.symm,ho⟩
 have hback:∀ r o,O r=some o→∃ o',up O r0 (.row t sz n f' fr) r=some o'∧o'.mut=o.mut:=fun r o ho=>by
  by_cases e:r0=r
  ·subst e
   rw [hd] at ho
   obtain rfl:=Option.some.inj ho
   exact ⟨_,wap _ _ _,rfl⟩
  ·exact ⟨o,by rw [wal _ _ _ e];exact ho,rfl⟩
 have hold:∀ r o,up O r0 (.row t sz n f' fr) r=some o→∃ o',O r=some o'∧o'.mut=o.mut:=fun r o ho=>by
  rcases hlk r o ho with ⟨rfl,rfl⟩ | ⟨_,h2⟩
  ·exact ⟨_,hd,rfl⟩
  ·exact ⟨_,h2,rfl⟩
 have hMB:MB E (up O r0 (.row t sz n f' fr)) bs=MB E O bs:=by
  funext b
  apply propext
  constructor
  ·rintro (h | ⟨r,o,c,h1,h2,h3⟩)
   ·exact .inl h
   ·obtain ⟨o',q1,q2⟩:=hold r o h1
    exact .inr ⟨r,o',c,q1,q2.trans h2,h3⟩
  ·rintro (h | ⟨r,o,c,h1,h2,h3⟩)
   ·exact .inl h
   ·obtain ⟨o',q1,q2⟩:=hback r o h1
    exact .inr ⟨r,o',c,q1,q2.trans h2,h3⟩
 have hmb:∀ b,mutB (up O r0 (.row t sz n f' fr)) bs b→mutB O bs b:=fun b ⟨r,o,c,h1,h2,h3⟩=>by
  obtain ⟨o',q1,q2⟩:=hold r o h1
  exact ⟨r,o',c,q1,q2.trans h2,h3⟩
 refine ⟨hMB,?_⟩
 exact {
  obj:=fun r o ho=>by
   rw [hMB]
   rcases hlk r o ho with ⟨rfl,rfl⟩ | ⟨hne,ho⟩
   ·rcases hW.obj r _ hd with h | ⟨b,c,vs,h1,h2,h3,h4,h5,h6,h7,h8⟩
    ·exact .inl h
    ·exact .inr ⟨b,c,vs,h1,h2,h3,h4,h5,fun i hi=>by rw [hf i hi];exact h6 i hi,h7,fun i hi j v u hj hv hu=>h8 i hi j v u hj hv (by rw [← hf i hi];exact hu)⟩
   ·exact hW.obj r o ho
  sep:=fun r r' o1 o2 b c c' h1 h2 m1 m2 b1 b2=>by
   obtain ⟨o1',p1,p2⟩:=hold r o1 h1
   obtain ⟨o2',p3,p4⟩:=hold r' o2 h2
   exact hW.sep r r' o1' o2' b c c' p1 p3 (p2.trans m1) (p4.trans m2) b1 b2
  out:=fun b hb=>hW.out b (hmb b hb)
  frz:=fun r t' sz' n' f2 b c ho hb=>by
   rw [hMB]
   rcases hlk r _ ho with ⟨rfl,h⟩ | ⟨hne,ho⟩
   ·injection h with e1 e2 e3 e4 e5
    subst e5
    exact hW.frz r _ _ _ _ b c hd hb
   ·exact hW.frz r t' sz' n' f2 b c ho hb
  high:=fun b hb=>hW.high b (by rw [← hMB];exact hb)
  lt:=hW.lt
  outlt:=hW.outlt
  keep:=hW.keep
  old:=fun b hb=>hW.old b (hmb b hb)
  size:=hW.size
  pre:=hW.pre
  os:=hW.os
  tape:=hW.tape
  output:=hW.output
  laid:=hW.laid
  gle:=hW.gle }
theorem wag.rowEq {C:Ctx} {g:FuncId} {args:List AV} {objs:List AObj} {R:AV→List (Nat×AObj)→Prop} (r:Nat) {t sz n:Nat} {f f':Nat→List AV} {fr:Bool} (hr:objs[r]?=some (.row t sz n f fr)) (hf:∀ i,i<n→f' i=f i)
  (h:wag C g args (objs.set r (.row t sz n f' fr)) R):wag C g args objs R:=by
 have hlt:r<objs.length:=(List.getElem?_eq_some_iff.1 hr).1
 refine ⟨h.1,fun E bs w cargs h1 h2 h3 h4 h5 h6 h7=>?_⟩
 obtain ⟨q1,q2⟩:=h4.rowEq (show lkL objs r=some (.row t sz n f fr) from hr) hf
 rw [← lkL_set hlt] at q1 q2
 have:=h.2 E bs w cargs h1 (by rw [List.length_set];exact h2) h3 q2 (by rw [List.length_set];exact h5) h6 (by rw [q1];exact h7)
 rw [List.length_set] at this
 exact this
theorem ADet.give {C:Ctx} {g:FuncId} {args args':List AV} {U:AV} {t sz n:Nat} {f:Nat→List AV} {fr:Bool} (h:ADet C g args' [] U []) (ha:args.map (frzC 0 sz n f)=args') (hn:nrefL args'=true) (hU:nref U=true) (hf:∀ i,i<n→nrefL (f i)=true):
  ADet C g args [.row t sz n f fr] U []:=by
 refine ⟨h.1,fun E bs w cargs h1 h2 h3 h4 h5 h6 h7=>?_⟩
 obtain ⟨hS,hW1⟩:=h4.freeze (show lkL [.row t sz n f fr] 0=some (.row t sz n f fr) from rfl)
 have no:∀ r,lkL [] r=none:=fun r=>by cases r<;>rfl
 have nm:∀ b',¬ mutB (lkL []) nob b':=by
  rintro b' ⟨r,o,c,ho,_⟩
  rw [no r] at ho;cases ho
 have hout:∀ b,E.outer b→b<w.heap.size:=fun b hb=>Nat.lt_of_lt_of_le (h4.outlt b hb) h4.size
 have hw:WRep C ⟨w,0,nob,fun _=>False,E.outer⟩ (lkL []) nob w:={
  obj:=fun r o ho=>by rw [no r] at ho;cases ho
  sep:=fun r r' o o' b c c' ho=>by rw [no r] at ho;cases ho
  out:=fun b hb=>absurd hb (nm b)
  frz:=fun r t sz n f b c ho=>by rw [no r] at ho;cases ho
  high:=fun b hb=>by
   rcases hb with hb | hb
   ·exact h4.high b (.inl hb)
   ·exact absurd hb (nm b)
  lt:=fun r b c hb=>by simp [nob] at hb
  outlt:=hout
  keep:=fun b _ _=>rfl
  old:=fun b hb=>absurd hb (nm b)
  size:=Nat.le_refl _
  pre:=fun r x hr=>absurd hr (Nat.not_lt_zero r)
  os:=rfl
  tape:=.refl _ _
  output:=rfl
  laid:=h4.laid
  gle:=Nat.le_trans h4.gle h4.size }
 have hlen:cargs.length=args'.length:=by rw [← ha,List.length_map];exact h6
 refine (h.2 ⟨w,0,nob,fun _=>False,E.outer⟩ nob w cargs rfl rfl rfl hw (fun _ _=>rfl) hlen (fun j v u hv hu=>?_)).mono ?_
 ·rw [← ha,List.getElem?_map] at hu
  obtain ⟨u0,hu0,rfl⟩:=Option.map_eq_some_iff.1 hu
  have hV:=V.frzC hW1 (wap _ _ _) hf ((h7 j v u0 hv hu0).step hS)
  refine hV.free (fun b _ hb hb'=>?_) (fun _ _ _=>rfl) (Nat.le_refl _) nob (wfb hn j _ (by rw [← ha,List.getElem?_map,hu0];rfl))
  rcases hb' with hb' | hb'
  ·exact hb (.inl hb')
  ·exact nm b hb'
 ·rintro e w' ⟨v,u,O',bs',rfl,⟨rfl,rfl⟩,hw',hV',_⟩
  have nl:∀ r,lk ([]:List (Nat×AObj)) r=none:=fun r=>rfl
  have nm':∀ (bs:Nat→Option Hd) b',¬ mutB (lk []) bs b':=by
   rintro bs b' ⟨r,o,c,ho,_⟩
   cases ho
  subst h1
  refine ⟨v,u,[],bs,rfl,⟨rfl,rfl⟩,?_,hV'.free (fun b _ hb hb'=>?_) (fun _ _ _=>rfl) (Nat.le_refl _) bs hU,fun r hr=>⟨rfl,h5 r (by show 1≤r;have:1+16≤r:=hr;omega)⟩⟩
  ·exact {
    obj:=fun r o ho=>by cases ho
    sep:=fun r r' o o' b c c' ho=>by cases ho
    out:=fun b hb=>absurd hb (nm' _ b)
    frz:=fun r t sz n f b c ho=>by cases ho
    high:=fun b hb=>by
     rcases hb with hb | hb
     ·exact h4.high b (.inl hb)
     ·exact absurd hb (nm' _ b)
    lt:=fun r b c hb=>Nat.lt_of_lt_of_le (h4.lt r b c hb) hw'.size
    outlt:=h4.outlt
    keep:=fun b hb _=>hw'.keep b hb (fun h=>h)
    old:=fun b hb=>absurd hb (nm' _ b)
    size:=hw'.size
    pre:=fun r x hr hb=>by rw [h3] at hb;exact hb
    os:=hw'.os
    tape:=hw'.tape
    output:=hw'.output
    laid:=hw'.laid
    gle:=h4.gle }
  ·rcases hb' with hb' | hb'
   ·exact hb (.inl hb')
   ·exact nm' _ b hb'
def wks:Spec
 |[.str a,.str b],[]=>some (.int .i64 (cmpS a b),[],True)
 |_,_=>none
def wk3:Spec
 |[.int .i64 _],[]=>some (.bool false,[],True)
 |_,_=>none
def wlo:Spec
 |[.int .i64 a,.int .i64 b],[]=>some (.int .i64 (cmpI a b),[],True)
 |_,_=>none
def orN (v:Nat→Int):Nat→Int
 |0=>0
 |k+1=>bif decide (orN v k=0) then v k else orN v k
def S_or:Spec
 |[.own 0 n],[.row t 1 m f fr]=>some (.int .i64 (orN (vInt f) n),[(0,.row 3 1 n f false)],t=3∧fr=false∧n=m∧n≤100∧∀ i,i<n→f i=waf (vInt f) i)
 |_,_=>none
def wkw (v:Nat→Int) (n k:Nat):St:=⟨[(3,.int .i64 0),(6,.own 0 n),(7,.int .i64 n),(8,.int .i64 k)],[(0,.row 3 1 n (waf v) false)],1,[]⟩
def L_or (v:Nat→Int) (n:Nat):wau:=fun st Q=>canonIs te 1 [3,6,7,8] st (wkw v n 0)∧n≤100∧
 waa (decide (orN v n=0)) (Q (.exit 0) ⟨[(3,.int .i64 0)],[(0,.row 3 1 n (waf v) false)],1,[]⟩) (Q .ret ⟨[(2,.int .i64 (orN v n))],[(0,.row 3 1 n (waf v) false)],1,[]⟩)
def wak (g:Nat→RW) (i:Nat):List AV:=[.str (g i).o,.str (g i).p,.int .i64 (g i).per,.int .i64 (g i).u,.int .i64 (g i).tv]
def rwOf (f:Nat→List AV) (i:Nat):RW:=match f i with
 |[.str o,.str p,.int .i64 per,.int .i64 u,.int .i64 tv]=>⟨o,p,per,u,tv⟩
 |_=>default
def lst {α:Type} (g:Nat→α) (n:Nat):List α:=(List.range n).map g
def wah (g:Nat→MG) (i:Nat):List AV:=[.str (g i).dev,.int .i64 (g i).seq,.int .i64 (g i).kind,.str (g i).v.o,.str (g i).v.p,.int .i64 (g i).v.per,.int .i64 (g i).v.day,.int .i64 (g i).v.st,.int .i64 (g i).v.pr,.str (g i).v.rep,.str (g i).d.o,.str (g i).d.p,.int .i64 (g i).d.per,.str (g i).d.dev,.int .i64 (g i).d.num]
def mgOf (f:Nat→List AV) (i:Nat):MG:=match f i with
 |[.str dev,.int .i64 seq,.int .i64 kind,.str o,.str p,.int .i64 per,.int .i64 day,.int .i64 st,.int .i64 pr,.str rep,.str o',.str p',.int .i64 per',.str dev',.int .i64 num]=>⟨dev,seq,kind,⟨o,p,per,day,st,pr,rep⟩,⟨o',p',per',dev',num⟩⟩
 |_=>default
structure CI where
 k:Nat
 w:Nat
 h:Nat→MG
def atM (L:List MG) (i:Nat):MG:=L.getD i default
structure MG.Sm (m:MG):Prop where
 a:m.dev.length<4294967281
 b:m.v.o.length<4294967281
 c:m.d.o.length<4294967281
 d:m.d.dev.length<4294967281
end Go.Eng
