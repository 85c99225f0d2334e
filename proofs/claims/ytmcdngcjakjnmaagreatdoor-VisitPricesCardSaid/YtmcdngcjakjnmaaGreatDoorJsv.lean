/- Whole numbers as ratios; searching in a sorted list of slots. -/
import Derived.Test.YtmcdngcjakjnmaaGreatDoorJsu
namespace Go.Eng
abbrev FE:=Value×Nat×(Nat->List AV)
def blkV:Value->Option Nat
 |.slice (some ad) _ _=>some ad.block
 |_=>none
structure FRow (w:World) (t:TypeId) (sz:Nat) (x:FE) (b c:Nat) (vs:Array Value):Prop where
 val:x.1= .slice (some ⟨b,0,none⟩) x.2.1 c
 heap:w.heap[b]?=some (.cells vs t (0,0))
 le:x.2.1<=c
 max:c<=maxLen
 size:vs.size=c * sz
 len:∀i,i<x.2.1->(x.2.2 i).length=sz
 one:∀i,i<x.2.1->∀j,j<sz->∀v:Value,vs[i * sz+j]?=some v->v.oneCell'=true
 vals:∀i,i<x.2.1->∀(j:Nat) v u,j<sz->vs[i * sz+j]?=some v->(x.2.2 i)[j]?=some u->∀(w':World) (M:Nat->Prop) (bs:Nat->Option Hd),V w' M bs v u
structure FamL (w:World) (B:Nat->Prop) (t:TypeId) (sz:Nat) (F:List FE):Prop where
 row:∀(i:Nat) x,F[i]?=some x->∃b c vs,FRow w t sz x b c vs/\B b
 sep:∀(i j:Nat) x y b,F[i]?=some x->F[j]?=some y->blkV x.1=some b->blkV y.1=some b->i=j
structure Ref (C:Ctx) (E E':Ent) (B:Nat->Prop):Prop where
 m:E'.m=E.m
 bs0:E'.bs0=E.bs0
 outer:∀b,E'.outer b↔E.outer b∨B b
 size:E.w0.heap.size<=E'.w0.heap.size
 keep:∀b,b<E.w0.heap.size->¬ E.mut0 b->E'.w0.heap[b]?=E.w0.heap[b]?
 mt:∀b,E'.mut0 b->E.mut0 b∨E.w0.heap.size<=b
 own:∀b,B b->¬ E.outer b/\C.gsz<=b/\b<E'.w0.heap.size/\¬ E'.mut0 b/\(E.mut0 b∨E.w0.heap.size<=b)
 os:E'.w0.os=E.w0.os
 tape:TL C.cnt E'.w0 E.w0
 output:E'.w0.output=E.w0.output
 outlt:∀b,E.outer b->b<E.w0.heap.size
 gle:C.gsz<=E.w0.heap.size
def RXR(C:Ctx)(E:Ent)(N:Nat)(t:TypeId)(sz:Nat)(F:List FE)(s:St)(bs:Nat->Option Hd)(a:Act)(w:World):Prop:=
 ∃E' B,Ref C E E' B/\RepS C E' N s bs a w/\FamL E'.w0 B t sz F
def reE(E:Ent)(B:Nat->Prop)(w:World)(O:Nat->Option AObj)(bs:Nat->Option Hd):Ent:=⟨w,E.m,E.bs0,mutB O bs,λb=>E.outer b∨B b⟩
section
variable {C:Ctx} {E E':Ent} {B B2:Nat->Prop} {O O2:Nat->Option AObj} {bs bs2:Nat->Option Hd} {w:World}
theorem Ref.self(C:Ctx){E:Ent}{O:Nat->Option AObj}{bs:Nat->Option Hd}{w:World}(h:WRep C E O bs w):Ref C E E λ_=>False:=
 ⟨rfl,rfl,λ_b=>(or_false _).to_iff.symm,lR7 _,λ_ _ _=>rfl,λ_b h=>.inl h,λ_b h=>h.elim,rfl,⟨rfl,λ_=>lR7 _⟩,rfl,h.outlt,h.gle⟩
theorem Ref.heap(hR:Ref C E E' B)(hW:WRep C E' O bs w){b:Nat}(hb:b<E.w0.heap.size)(hm:¬ E.mut0 b):w.heap[b]?=E.w0.heap[b]?:=by
 have h1:¬ E'.mut0 b:=λh=>(hR.mt b h).elim hm (λq=>by omega);rw[hW.keep b (Nat.lt_of_lt_of_le hb hR.size) h1,hR.keep b hb hm]
theorem Ref.fam(hR:Ref C E E' B)(hW:WRep C E' O bs w){b:Nat}(hb:B b):w.heap[b]?=E'.w0.heap[b]?:=
 hW.keep b (hR.own b hb).2.2.1 (hR.own b hb).2.2.2.1
theorem Ref.notmut(hR:Ref C E E' B)(hW:WRep C E' O bs w){b:Nat}(hb:B b):¬ mutB O bs b:=λh=>hW.out b h ((hR.outer b).2 (.inr hb))
theorem Ref.re(hR:Ref C E E' B)(hW:WRep C E' O bs w)
  (hobj:∀r o,O2 r=some o->wc4 w (MB (reE E B2 w O2 bs2) O2 bs2) bs2 r o)
  (hsep:∀r r' o o' b c c',O2 r=some o->O2 r'=some o'->o.mut=true->o'.mut=true->bs2 r=some (.blk b c)->bs2 r'=some (.blk b c')->r=r')
  (hdis:∀b,mutB O2 bs2 b->¬ E.outer b/\¬ B2 b)
  (hfrz:∀r t sz n f b c,O2 r=some (.row t sz n f true)->bs2 r=some (.blk b c)->¬ MB (reE E B2 w O2 bs2) O2 bs2 b)
  (hown:∀b,mutB O2 bs2 b∨B2 b->C.gsz<=b/\b<w.heap.size/\(E.mut0 b∨E.w0.heap.size<=b))
  (hB:∀b,B2 b->¬ E.outer b) (hbs:∀r b c,bs2 r=some (.blk b c)->b<w.heap.size) (hpre:∀r h,r<E.m->E.bs0 r=some h->bs2 r=some h):
  WRep C (reE E B2 w O2 bs2) O2 bs2 w/\Ref C E (reE E B2 w O2 bs2) B2:=by
 have hsz:E.w0.heap.size<=w.heap.size:=Nat.le_trans hR.size hW.size;have hhigh:∀b,E.outer b->C.gsz<=b:=λb hb=>hW.high b (.inl ((hR.outer b).2 (.inl hb)));refine⟨?_,?_⟩
 ·exact {
   obj:=hobj
   sep:=hsep
   out:=λb hb h=>h.elim (hdis b hb).1 (hdis b hb).2
   frz:=hfrz
   high:=λb hb=>by
    rcases hb with(hb | hb) | hb
    ·exact hhigh b hb
    ·exact(hown b (.inr hb)).1
    ·exact(hown b (.inl hb)).1
   lt:=hbs
   outlt:=λb hb=>by
    rcases hb with hb | hb
    ·exact Nat.lt_of_lt_of_le (hR.outlt b hb) hsz
    ·exact(hown b (.inr hb)).2.1
   keep:=λ_ _ _=>rfl
   old:=λb hb=>.inl hb
   size:=lR7 _
   pre:=hpre
   os:=rfl
   tape:=⟨rfl,λ_=>lR7 _⟩
   output:=rfl
   laid:=hW.laid
   gle:=Nat.le_trans hR.gle hsz }
 ·exact⟨rfl,rfl,λb=>Iff.rfl,hsz,λb hb hm=>hR.heap hW hb hm,λb hb=>(hown b (.inl hb)).2.2,
   λb hb=>⟨hB b hb,(hown b (.inr hb)).1,(hown b (.inr hb)).2.1,λh=>(hdis b h).2 hb,(hown b (.inr hb)).2.2⟩,
   hW.os.trans hR.os,hW.tape.trans hR.tape,hW.output.trans hR.output,hR.outlt,hR.gle⟩
theorem Ref.ownB(hR:Ref C E E' B)(hW:WRep C E' O bs w){b:Nat}(hb:mutB O bs b):C.gsz<=b/\b<w.heap.size/\(E.mut0 b∨E.w0.heap.size<=b)/\¬ E.outer b/\¬ B b:=by
 have h2:=hW.out b hb;refine⟨hW.high b (.inr hb),?_,?_,λh=>h2 ((hR.outer b).2 (.inl h)),λh=>h2 ((hR.outer b).2 (.inr h))⟩
 ·obtain⟨r,o,c,_,_,h3⟩:=hb;exact hW.lt r b c h3
 ·rcases hW.old b hb with h | h
  ·exact hR.mt b h
  ·exact .inr (Nat.le_trans hR.size h)
end
def flatA:AV->Bool
 |.any=>true
 |.bool _=>true
 |.int _ _=>true
 |.str _=>true
 |_=>false
def flatL(l:List AV):Bool:=l.all flatA
theorem V.flat{w w':World}{M M':Nat->Prop}{bs bs':Nat->Option Hd}{v:Value}{u:AV}(h:V w M bs v u)(hf:flatA u=true):V w' M' bs' v u:=by
 cases u with
 |any=>exact .any
 |bool b=>cases h;exact .bool
 |int k n=>cases h;exact .int
 |str s=>cases h with | str h=>exact .str h
 |_=>cases hf
theorem w2j{l:List AV}(h:flatL l=true){j:Nat}{u:AV}(hj:l[j]?=some u):flatA u=true:=List.all_eq_true.1 h u (List.mem_of_getElem? hj)
section
variable {C:Ctx} {E:Ent} {N:Nat} {t:TypeId} {sz:Nat} {s:St} {bs:Nat->Option Hd} {a:Act} {w:World}
theorem RXR.start(t:TypeId)(sz:Nat)(h:RepS C E N s bs a w):RXR C E N t sz [] s bs a w:=
 ⟨E,λ_=>False,Ref.self C h.1.2,h,⟨λi x hx=>by simp at hx,λi j x y b hx=>by simp at hx⟩⟩
theorem FRow.move{w w':World}{t:TypeId}{sz:Nat}{x:FE}{b c:Nat}{vs:Array Value}(h:FRow w t sz x b c vs)(he:w'.heap[b]?=w.heap[b]?):FRow w' t sz x b c vs:=
 ⟨h.val,he.trans h.heap,h.le,h.max,h.size,h.len,h.one,h.vals⟩
theorem FRow.blk{w:World}{t:TypeId}{sz:Nat}{x:FE}{b c:Nat}{vs:Array Value}(h:FRow w t sz x b c vs):blkV x.1=some b:=by rw[h.val];rfl
theorem FRow.obj{w:World}{t:TypeId}{sz:Nat}{x:FE}{b c:Nat}{vs:Array Value}(h:FRow w t sz x b c vs){M:Nat->Prop}{bs:Nat->Option Hd}{r:Nat}(hb:bs r=some (.blk b c)):wc4 w M bs r (.row t sz x.2.1 x.2.2 false):=
 .inr ⟨b,c,vs,hb,h.heap,h.le,h.max,h.size,h.len,h.one,λi hi j v u hj hv hu=>h.vals i hi j v u hj hv hu w M bs⟩
theorem wpu{α:Type}{F1 F2:List α}{x y:α}{i:Nat}(h:(F1++F2)[i]?=some y):∃k,(F1++x::F2)[k]?=some y/\k≠F1.length/\(i=if k<F1.length then k else k - 1):=by
 by_cases q:i<F1.length
 ·rw[List.getElem?_append_left q] at h;exact⟨i,by rw[List.getElem?_append_left q];exact h,by omega,by rw[if_pos q]⟩
 ·rw[List.getElem?_append_right (by omega)] at h;refine⟨i+1,?_,by omega,by rw[if_neg (by omega)];rfl⟩;rw[List.getElem?_append_right (by omega),show i+1 - F1.length=(i - F1.length)+1 by omega,List.getElem?_cons_succ];exact h
theorem wj6{α:Type}{F1 F2:List α}{x y:α}{i:Nat}(h:(F1++x::F2)[i]?=some y)(hi:i≠F1.length):∃k,(F1++F2)[k]?=some y/\(i=if k<F1.length then k else k+1):=by
 by_cases q:i<F1.length
 ·rw[List.getElem?_append_left q] at h;exact⟨i,by rw[List.getElem?_append_left q];exact h,by rw[if_pos q]⟩
 ·rw[List.getElem?_append_right (by omega),show i - F1.length=(i - 1 - F1.length)+1 by omega,List.getElem?_cons_succ] at h;refine⟨i - 1,by rw[List.getElem?_append_right (by omega)];exact h,by rw[if_neg (by omega)];omega⟩
theorem RXR.focus{F1 F2:List FE}{x:FE}(h:RXR C E N t sz (F1++x::F2) s bs a w){r:Nat}{es:List (AV×Value)}{j i0:Nat}(hO:lk s.O r=some (.rmap es j none))(he:∀p,es[i0]?=some p->p.2=x.1):
  ∃bs',RXR C E N t sz (F1++F2) ⟨s.T,(r,.rmap es i0 (some (.own s.nx x.2.1)))::(s.nx,.row t sz x.2.1 x.2.2 false)::rm r s.O,s.nx+1,[]⟩ bs' a w:=by
 obtain⟨E',B,hR,⟨⟨hF,hW⟩,hnx,hm⟩,hFam⟩:=h;obtain⟨b0,c0,vs,hrow,hB0⟩:=hFam.row F1.length x (by rw[List.getElem?_append_right (lR7 _),Nat.sub_self];rfl);have hnew:=hnx s.nx (lR7 _);have hrn:r≠s.nx:=λe=>by rw[e,hnew.1] at hO;cases hO
 have hrow':FRow w t sz x b0 c0 vs:=hrow.move (hR.fam hW hB0)
 let bs2:Nat->Option Hd:=up bs s.nx (.blk b0 c0)
 let O2:Nat->Option AObj:=lk ((r,.rmap es i0 (some (.own s.nx x.2.1)))::(s.nx,.row t sz x.2.1 x.2.2 false)::rm r s.O)
 have hO2:∀k o,O2 k=some o->(k=r/\o= .rmap es i0 (some (.own s.nx x.2.1)))∨(k=s.nx/\o= .row t sz x.2.1 x.2.2 false)∨(k≠r/\k≠s.nx/\lk s.O k=some o):=λk o ho=>by
  have ho:lk ((r,.rmap es i0 (some (.own s.nx x.2.1)))::(s.nx,.row t sz x.2.1 x.2.2 false)::rm r s.O) k=some o:=ho;rw[waw,waw] at ho;split at ho
  ·rename_i e;exact .inl ⟨e.symm,(oJ7 ho).symm⟩
  ·rename_i e;split at ho
   ·rename_i e2;exact .inr (.inl ⟨e2.symm,(oJ7 ho).symm⟩)
   ·rename_i e2;have:=(wc7 r s.O k o ho);exact .inr (.inr ⟨λq=>e q.symm,λq=>e2 q.symm,this.2⟩)
 have hbs2:∀k,k≠s.nx->bs2 k=bs k:=λk hk=>wam _ _ _ (λe=>hk e.symm);have hbsn:bs2 s.nx=some (.blk b0 c0):=wao _ _ _;have hmem:∀k o b c,O2 k=some o->o.mut=true->bs2 k=some (.blk b c)->(k=s.nx/\b=b0)∨(k≠s.nx/\∃o',lk s.O k=some o'/\o'.mut=true/\bs k=some (.blk b c)):=λk o b c ho hmu hb=>by
  rcases hO2 k o ho with⟨rfl,rfl⟩ | ⟨rfl,rfl⟩ | ⟨h1,h2,h3⟩
  ·exact .inr ⟨hrn,_,hO,rfl,by rw[← hbs2 k hrn];exact hb⟩
  ·rw[hbsn] at hb;injection hb with hb;injection hb with hb _;exact .inl ⟨rfl,hb.symm⟩
  ·exact .inr ⟨h2,o,h3,hmu,by rw[← hbs2 k h2];exact hb⟩
 have hmut:∀b,mutB O2 bs2 b->mutB (lk s.O) bs b∨b=b0:=λb ⟨k,o,c,h1,h2,h3⟩=>by
  rcases hmem k o b c h1 h2 h3 with⟨_,e⟩ | ⟨_,o',q1,q2,q3⟩
  ·exact .inr e
  ·exact .inl ⟨k,o',c,q1,q2,q3⟩
 have h0:=hR.own b0 hB0;have h0n:=hR.notmut hW hB0;have hS:Step w (MB E' (lk s.O) bs) bs w (MB (reE E (λb=>B b/\b≠b0) w O2 bs2) O2 bs2) bs2:=by
  refine⟨λk hd hk=>?_,λb _ hM=>?_,λ_ _ _=>rfl,lR7 _⟩
  ·have:k≠s.nx:=λe=>by rw[e,hnew.2] at hk;cases hk
   rw[hbs2 k this];exact hk
  ·rintro((hb | hb) | hb)
   ·exact hM (.inl ((hR.outer b).2 (.inl hb)))
   ·exact hM (.inl ((hR.outer b).2 (.inr hb.1)))
   ·rcases hmut b hb with hb | hb
    ·exact hM (.inr hb)
    ·exact hM (.inl ((hR.outer b).2 (.inr (hb ▸ hB0))))
 obtain⟨hW2,hR2⟩:=hR.re (B2:=λb=>B b/\b≠b0) (O2:=O2) (bs2:=bs2) hW
  (λk o ho=>by
   rcases hO2 k o ho with⟨rfl,rfl⟩ | ⟨rfl,rfl⟩ | ⟨h1,h2,h3⟩
   ·obtain⟨b,c,ents,clock,k1,k2,k3,k4⟩:=hW.obj k _ hO;refine⟨b,c,ents,clock,(hbs2 k hrn).trans k1,k2,⟨k3.1,λi e p hi hp=>?_⟩,k4⟩;obtain⟨q1,_,q3⟩:=k3.2 i e p hi hp;refine⟨q1.step_ hS.far hS.heap hS.size nob (λ_ _ hh=>hh),λu hu hi0=>?_,λ_=>q3 (.inl rfl)⟩;obtain rfl:=oJ7 hu;rw[q3 (.inl rfl),he p (hi0 ▸ hp),hrow.val];exact .own hbsn hrow.le hrow.max
   ·exact hrow'.obj hbsn
   ·exact(hW.obj k o h3).step hS λ_ _ _=>rfl)
  (λk k' o o' b c c' g1 g2 m1 m2 b1 b2=>by
   rcases hmem k o b c g1 m1 b1 with⟨e1,d1⟩ | ⟨e1,o1,q1,q2,q3⟩<;>rcases hmem k' o' b c' g2 m2 b2 with⟨e2,d2⟩ | ⟨e2,o2,r1,r2,r3⟩
   ·rw[e1,e2]
   ·exact absurd ⟨k',o2,c',r1,r2,d1 ▸ r3⟩ h0n
   ·exact absurd ⟨k,o1,c,q1,q2,d2 ▸ q3⟩ h0n
   ·exact hW.sep k k' o1 o2 b c c' q1 r1 q2 r2 q3 r3)
  (λb hb=>by
   rcases hmut b hb with hb | hb
   ·have:=hR.ownB hW hb;exact⟨this.2.2.2.1,λq=>this.2.2.2.2 q.1⟩
   ·exact⟨hb ▸ h0.1,λq=>q.2 hb⟩)
  (λk t' sz' n' f' b c g1 g2=>by
   rcases hO2 k _ g1 with⟨rfl,e⟩ | ⟨rfl,e⟩ | ⟨h1,h2,h3⟩
   ·cases e
   ·cases e
   ·have hb:=(hbs2 k h2).symm.trans g2;exact hS.far b (hW.lt k b c hb) (hW.frz k t' sz' n' f' b c h3 hb))
  (λb hb=>by
   rcases hb with hb | hb
   ·rcases hmut b hb with hb | hb
    ·have:=hR.ownB hW hb;exact⟨this.1,this.2.1,this.2.2.1⟩
    ·rw[hb];exact⟨h0.2.1,Nat.lt_of_lt_of_le h0.2.2.1 hW.size,h0.2.2.2.2⟩
   ·have:=hR.own b hb.1;exact⟨this.2.1,Nat.lt_of_lt_of_le this.2.2.1 hW.size,this.2.2.2.2⟩)
  (λb hb=>(hR.own b hb.1).1)
  (λk b c hb=>by
   by_cases e:k=s.nx
   ·rw[e,hbsn] at hb;injection hb with hb;injection hb with hb _;rw[← hb];exact Nat.lt_of_lt_of_le h0.2.2.1 hW.size
   ·rw[hbs2 k e] at hb;exact hW.lt k b c hb)
  (λk hd hk hb=>by
   have hk':k≠s.nx:=by have:=hR.m;omega
   rw[hbs2 k hk'];exact hW.pre k hd (by rw[hR.m];exact hk) (by rw[hR.bs0];exact hb))
 refine⟨bs2,_,_,hR2,⟨⟨hF.step hS,hW2⟩,λk hk=>⟨?_,?_⟩,?_⟩,?_,?_⟩
 ·have hk:s.nx+1<=k:=hk
  cases hx:O2 k with
  |none=>exact hx
  |some o=>
   rcases hO2 k o hx with⟨rfl,_⟩ | ⟨rfl,_⟩ | ⟨_,_,h3⟩
   ·rw[(hnx k (by omega)).1] at hO;cases hO
   ·omega
   ·rw[(hnx k (by omega)).1] at h3;cases h3
 ·have hk:s.nx+1<=k:=hk;rw[hbs2 k (by omega)];exact(hnx k (by omega)).2
 ·show E.m<=s.nx+1;have:=hR.m;omega
 ·intro i y hy;obtain⟨k,hk,hne,_⟩:=wpu (x:=x) hy;obtain⟨b,c,vs',q1,q2⟩:=hFam.row k y hk;refine⟨b,c,vs',q1.move (hR.fam hW q2),q2,λe=>hne ?_⟩;exact hFam.sep k F1.length y x b hk (by rw[List.getElem?_append_right (lR7 _),Nat.sub_self];rfl) q1.blk (by rw[hrow.blk,e])
 ·intro i i' y y' b hy hy' e1 e2;obtain⟨k,hk,hne,hi⟩:=wpu (x:=x) hy;obtain⟨k',hk',hne',hi'⟩:=wpu (x:=x) hy';have:=hFam.sep k k' y y' b hk hk' e1 e2;subst this;rw[hi,hi']
theorem RXR.unfocus{F1 F2:List FE}(h:RXR C E N t sz (F1++F2) s bs a w){r q n i0:Nat}{f:Nat->List AV}{es:List (AV×Value)}(hrq:r≠q)(hO:lk s.O r=some (.rmap es i0 (some (.own q n))))(hq:lk s.O q=some (.row t sz n f false))
  (hn:0<n) (hf:∀i,i<n->flatL (f i)=true) (hi0:i0<es.length):
  ∃v:Value,RXR C E N t sz (F1++(v,n,f)::F2) ⟨s.T,(r,.rmap (es.set i0 ((es[i0]).1,v)) i0 none)::rm r (rm q s.O),s.nx,[]⟩ bs a w:=by
 obtain⟨E',B,hR,⟨⟨hF,hW⟩,hnx,hm⟩,hFam⟩:=h;obtain⟨bm,cm,ents,clock,m1,m2,m3,m4⟩:=hW.obj r _ hO;have hlt0:i0<ents.size:=by rw[m3.1];exact hi0
 have hent:ents[i0]?=some ents[i0]:=Array.getElem?_eq_getElem hlt0;have hes:es[i0]?=some es[i0]:=List.getElem?_eq_getElem hi0;have hv:=(m3.2 i0 _ _ hent hes).2.1 _ rfl rfl;generalize hval:(ents[i0]).val=v at hv;obtain⟨b5,c5,vs,hrow,hb5⟩:∃b c vs,FRow w t sz (v,n,f) b c vs/\bs q=some (.blk b c):=by
  rcases hW.obj q _ hq with⟨h1,h2⟩ | ⟨b,c,vs,h1,h2,h3,h4,h5,h6,h7,h8⟩
  ·omega
  ·cases hv with
   |own hb hn' hcm=>
    rw[h1] at hb;injection hb with hb;injection hb with e1 e2;subst e1;subst e2;exact⟨b,c,vs,⟨rfl,h2,h3,h4,h5,h6,h7,λi hi j v u hj hv hu w' M bs'=>(h8 i hi j v u hj hv hu).flat (w2j (hf i hi) hu)⟩,h1⟩
   |ownnil hb hn'=>omega
 let O2:Nat->Option AObj:=lk ((r,.rmap (es.set i0 ((es[i0]).1,v)) i0 none)::rm r (rm q s.O))
 have hO2:∀k o,O2 k=some o->(k=r/\o= .rmap (es.set i0 ((es[i0]).1,v)) i0 none)∨(k≠r/\k≠q/\lk s.O k=some o):=λk o ho=>by
  have ho:lk ((r,.rmap (es.set i0 ((es[i0]).1,v)) i0 none)::rm r (rm q s.O)) k=some o:=ho;rw[waw] at ho;split at ho
  ·rename_i e;exact .inl ⟨e.symm,(oJ7 ho).symm⟩
  ·rename_i e;have h1:=(wc7 r (rm q s.O) k o ho).2;have h2:=wc7 q s.O k o h1;exact .inr ⟨λx=>e x.symm,λx=>h2.1 x.symm,h2.2⟩
 have hb5m:mutB (lk s.O) bs b5:=⟨q,_,c5,hq,rfl,hb5⟩;have hmem:∀k o b c,O2 k=some o->o.mut=true->bs k=some (.blk b c)->k≠q/\∃o',lk s.O k=some o'/\o'.mut=true:=λk o b c ho hmu hb=>by
  rcases hO2 k o ho with⟨rfl,rfl⟩ | ⟨h1,h2,h3⟩
  ·exact⟨hrq,_,hO,rfl⟩
  ·exact⟨h2,o,h3,hmu⟩
 have hmut:∀b,mutB O2 bs b->mutB (lk s.O) bs b/\b≠b5:=λb ⟨k,o,c,h1,h2,h3⟩=>by
  obtain⟨g1,o',g2,g3⟩:=hmem k o b c h1 h2 h3;exact⟨⟨k,o',c,g2,g3,h3⟩,λe=>g1 (hW.sep k q o' _ b c c5 g2 hq g3 rfl h3 (e ▸ hb5))⟩
 have h5:=hR.ownB hW hb5m;have hS:Step w (MB E' (lk s.O) bs) bs w (MB (reE E (λb=>B b∨b=b5) w O2 bs) O2 bs) bs:=by
  refine⟨λ_ _ h=>h,λb _ hM=>?_,λ_ _ _=>rfl,lR7 _⟩;rintro((hb | hb | hb) | hb)
  ·exact hM (.inl ((hR.outer b).2 (.inl hb)))
  ·exact hM (.inl ((hR.outer b).2 (.inr hb)))
  ·exact hM (.inr (hb ▸ hb5m))
  ·exact hM (.inr (hmut b hb).1)
 obtain⟨hW2,hR2⟩:=hR.re (B2:=λb=>B b∨b=b5) (O2:=O2) (bs2:=bs) hW
  (λk o ho=>by
   rcases hO2 k o ho with⟨rfl,rfl⟩ | ⟨h1,h2,h3⟩
   ·refine⟨bm,cm,ents,clock,m1,m2,⟨by rw[List.length_set];exact m3.1,λi e p hi hp=>?_⟩,m4⟩
    by_cases ei:i=i0
    ·subst ei;rw[List.getElem?_set_self hi0] at hp;obtain rfl:=oJ7 hp;rw[hent] at hi;obtain rfl:=oJ7 hi;refine⟨((m3.2 i _ _ hent hes).1).step_ hS.far hS.heap hS.size nob (λ_ _ hh=>hh),λu hu=>(by cases hu),λ_=>hval⟩
    ·rw[List.getElem?_set_ne (λx=>ei x.symm)] at hp;obtain⟨q1,_,q3⟩:=m3.2 i e p hi hp;exact⟨q1.step_ hS.far hS.heap hS.size nob (λ_ _ hh=>hh),λu hu=>(by cases hu),λ_=>q3 (.inr ei)⟩
   ·exact(hW.obj k o h3).step hS λ_ _ _=>rfl)
  (λk k' o o' b c c' g1 g2 n1 n2 b1 b2=>by
   obtain⟨_,o1,q1,q2⟩:=hmem k o b c g1 n1 b1;obtain⟨_,o2,r1,r2⟩:=hmem k' o' b c' g2 n2 b2;exact hW.sep k k' o1 o2 b c c' q1 r1 q2 r2 b1 b2)
  (λb hb=>by
   obtain⟨g1,g2⟩:=hmut b hb;have:=hR.ownB hW g1;exact⟨this.2.2.2.1,λq=>q.elim this.2.2.2.2 g2⟩)
  (λk t' sz' n' f' b c g1 g2=>by
   rcases hO2 k _ g1 with⟨rfl,e⟩ | ⟨h1,h2,h3⟩
   ·cases e
   ·exact hS.far b (hW.lt k b c g2) (hW.frz k t' sz' n' f' b c h3 g2))
  (λb hb=>by
   rcases hb with hb | hb | hb
   ·have:=hR.ownB hW (hmut b hb).1;exact⟨this.1,this.2.1,this.2.2.1⟩
   ·have:=hR.own b hb;exact⟨this.2.1,Nat.lt_of_lt_of_le this.2.2.1 hW.size,this.2.2.2.2⟩
   ·rw[hb];exact⟨h5.1,h5.2.1,h5.2.2.1⟩)
  (λb hb=>hb.elim (λhb=>(hR.own b hb).1) (λhb=>hb ▸ h5.2.2.2.1))
  hW.lt (λk hd hk hb=>hW.pre k hd (by rw[hR.m];exact hk) (by rw[hR.bs0];exact hb))
 refine⟨v,_,_,hR2,⟨⟨hF.step hS,hW2⟩,λk hk=>⟨?_,(hnx k hk).2⟩,by have:=hR.m;show E.m<=s.nx;omega⟩,?_,?_⟩
 ·cases hx:O2 k with
  |none=>exact hx
  |some o=>
   rcases hO2 k o hx with⟨rfl,_⟩ | ⟨_,_,h3⟩
   ·rw[(hnx k hk).1] at hO;cases hO
   ·rw[(hnx k hk).1] at h3;cases h3
 ·intro i y hy
  by_cases ei:i=F1.length
  ·subst ei;rw[List.getElem?_append_right (lR7 _),Nat.sub_self] at hy;obtain rfl:=oJ7 hy;exact⟨b5,c5,vs,hrow,.inr rfl⟩
  ·obtain⟨k,hk⟩:=wj6 hy ei;obtain⟨b,c,vs',q1,q2⟩:=hFam.row k y hk.1;exact⟨b,c,vs',q1.move (hR.fam hW q2),.inl q2⟩
 ·have old:∀(i:Nat) (y:FE) (b:Nat),(F1++(v,n,f)::F2)[i]?=some y->i≠F1.length->blkV y.1=some b->B b:=λi y b hy ei hb=>by
   obtain⟨k,hk⟩:=wj6 hy ei;obtain⟨b',c,vs',q1,q2⟩:=hFam.row k y hk.1;rw[q1.blk] at hb;obtain rfl:=oJ7 hb;exact q2
  have mid:∀(i:Nat) (y:FE) (b:Nat),(F1++(v,n,f)::F2)[i]?=some y->i=F1.length->blkV y.1=some b->b=b5:=λi y b hy ei hb=>by
   subst ei;rw[List.getElem?_append_right (lR7 _),Nat.sub_self] at hy;obtain rfl:=oJ7 hy;rw[hrow.blk] at hb;exact(oJ7 hb).symm
  intro i i' y y' b hy hy' e1 e2
  by_cases ei:i=F1.length<;>by_cases ei':i'=F1.length
  ·rw[ei,ei']
  ·exact absurd (old i' y' b hy' ei' e2) (by rw[mid i y b hy ei e1];exact h5.2.2.2.2)
  ·exact absurd (old i y b hy ei e1) (by rw[mid i' y' b hy' ei' e2];exact h5.2.2.2.2)
  ·obtain⟨k,hk,hk2⟩:=wj6 hy ei;obtain⟨k',hk',hk2'⟩:=wj6 hy' ei';have:=hFam.sep k k' y y' b hk hk' e1 e2;subst this;rw[hk2,hk2']
theorem RXR.freeze{F:List FE}(h:RXR C E N t sz F s bs a w){r j:Nat}{es:List (AV×Value)}{es':List (AV×AV)}(hO:lk s.O r=some (.rmap es j none))(hl:es'.length=es.length)(hlF:F.length=es.length)
  (he:∀(i:Nat) p x p',es[i]?=some p->F[i]?=some x->es'[i]?=some p'->p.2=x.1/\p'=(p.1,.view sz x.2.1 x.2.2)):
  RepS C E N ⟨s.T,(r,.amap es')::rm r s.O,s.nx,[]⟩ bs a w:=by
 obtain⟨E',B,hR,⟨⟨hF,hW⟩,hnx,hm⟩,hFam⟩:=h
 let O2:Nat->Option AObj:=lk ((r,.amap es')::rm r s.O)
 have hO2:∀k o,O2 k=some o->(k=r/\o= .amap es')∨(k≠r/\lk s.O k=some o):=λk o ho=>by
  have ho:lk ((r,.amap es')::rm r s.O) k=some o:=ho;rw[waw] at ho;split at ho
  ·rename_i e;exact .inl ⟨e.symm,(oJ7 ho).symm⟩
  ·rename_i e;exact .inr ⟨λx=>e x.symm,(wc7 r s.O k o ho).2⟩
 have hmem:∀k o,O2 k=some o->o.mut=true->∃o',lk s.O k=some o'/\o'.mut=true:=λk o ho hmu=>by
  rcases hO2 k o ho with⟨rfl,rfl⟩ | ⟨_,h3⟩
  ·exact⟨_,hO,rfl⟩
  ·exact⟨o,h3,hmu⟩
 have hmut:∀b,mutB O2 bs b->mutB (lk s.O) bs b:=λb ⟨k,o,c,h1,h2,h3⟩=>by
  obtain⟨o',g2,g3⟩:=hmem k o h1 h2;exact⟨k,o',c,g2,g3,h3⟩
 have hS:Step w (MB E' (lk s.O) bs) bs w (MB E O2 bs) bs:=by
  refine⟨λ_ _ h=>h,λb _ hM=>?_,λ_ _ _=>rfl,lR7 _⟩;rintro(hb | hb)
  ·exact hM (.inl ((hR.outer b).2 (.inl hb)))
  ·exact hM (.inr (hmut b hb))
 have hW2:WRep C E O2 bs w:={
  obj:=λk o ho=>by
   rcases hO2 k o ho with⟨rfl,rfl⟩ | ⟨_,h3⟩
   ·obtain⟨b,c,ents,clock,k1,k2,k3,k4⟩:=hW.obj k _ hO;refine⟨b,c,ents,clock,k1,k2,⟨by rw[hl];exact k3.1,λi e p hi hp=>?_⟩,k4⟩;have hlt:i<es.length:=by rw[← hl];exact(List.getElem?_eq_some_iff.1 hp).1
    have hes:es[i]?=some es[i]:=List.getElem?_eq_getElem hlt;have hFi:F[i]?=some (F[i]'(by omega)):=List.getElem?_eq_getElem (by omega);obtain⟨q1,_,q3⟩:=k3.2 i e _ hi hes;obtain⟨e1,e2⟩:=he i _ _ _ hes hFi hp;subst e2;obtain⟨b1,c1,vs,hr,hB⟩:=hFam.row i _ hFi;have hr:=hr.move (hR.fam hW hB);generalize F[i]'(by omega)=x at *;refine⟨(q1.step_ hS.far hS.heap hS.size nob (λ_ _ hh=>hh)).lift,?_⟩;show V w (MB E O2 bs) bs e.val (.view sz x.2.1 x.2.2);rw[q3 (.inl rfl),e1,hr.val];have hb1:=hR.own b1 hB;have inb:∀i,i<x.2.1->∀j,j<sz->i * sz+j<vs.size:=by
     intro i hi j hj;rw[hr.size];have hle:=hr.le;have:(i+1) * sz<=c1 * sz:=Nat.mul_le_mul_right sz (by omega);rw[Nat.add_mul,Nat.one_mul] at this;omega
    refine .view ⟨b1,0,none⟩ (λi j=>vs.getD (i * sz+j) undef) hr.le hr.max (λ_=>⟨rfl,λhM=>?_,Nat.lt_of_lt_of_le hb1.2.2.1 hW.size⟩) hr.len (λi hi j hj=>?_) (λi hi j hj=>?_) λi hi j u hu=>?_
    ·rcases hM with hM | hM
     ·exact hb1.1 hM
     ·exact hR.notmut hW hB (hmut b1 hM)
    ·have:=inb i hi j hj;rw[Addr.add_lit,Nat.zero_add,cell_of_row w b1 (i * sz+j) vs t (0,0) hr.heap];simp[this]
    ·have:=inb i hi j hj;exact hr.one i hi j hj _ (by simp[this])
    ·have hj:j<sz:=by rw[← hr.len i hi];exact(List.getElem?_eq_some_iff.1 hu).1
     have:=inb i hi j hj;exact hr.vals i hi j _ u hj (by simp[this]) hu _ _ _
   ·exact(hW.obj k o h3).step hS λ_ _ _=>rfl
  sep:=λk k' o o' b c c' g1 g2 n1 n2 b1 b2=>by
   obtain⟨o1,q1,q2⟩:=hmem k o g1 n1;obtain⟨o2,r1,r2⟩:=hmem k' o' g2 n2;exact hW.sep k k' o1 o2 b c c' q1 r1 q2 r2 b1 b2
  out:=λb hb=>(hR.ownB hW (hmut b hb)).2.2.2.1
  frz:=λk t' sz' n' f' b c g1 g2=>by
   rcases hO2 k _ g1 with⟨rfl,e⟩ | ⟨_,h3⟩
   ·cases e
   ·exact hS.far b (hW.lt k b c g2) (hW.frz k t' sz' n' f' b c h3 g2)
  high:=λb hb=>by
   rcases hb with hb | hb
   ·exact hW.high b (.inl ((hR.outer b).2 (.inl hb)))
   ·exact hW.high b (.inr (hmut b hb))
  lt:=hW.lt
  outlt:=hR.outlt
  keep:=λb hb hm=>hR.heap hW hb hm
  old:=λb hb=>(hR.ownB hW (hmut b hb)).2.2.1
  size:=Nat.le_trans hR.size hW.size
  pre:=λk hd hk hb=>hW.pre k hd (by rw[hR.m];exact hk) (by rw[hR.bs0];exact hb)
  os:=hW.os.trans hR.os
  tape:=hW.tape.trans hR.tape
  output:=hW.output.trans hR.output
  laid:=hW.laid
  gle:=hR.gle }
 refine⟨⟨hF.step hS,hW2⟩,λk hk=>⟨?_,(hnx k hk).2⟩,by have:=hR.m;show E.m<=s.nx;omega⟩
 cases hx:O2 k with
 |none=>exact hx
 |some o=>
  rcases hO2 k o hx with⟨rfl,_⟩ | ⟨_,h3⟩
  ·rw[(hnx k hk).1] at hO;cases hO
  ·rw[(hnx k hk).1] at h3;cases h3
end
theorem RepS.toR{C:Ctx}{E:Ent}{N:Nat}{s:St}{bs:Nat->Option Hd}{a:Act}{w:World}(h:RepS C E N s bs a w){r:Nat}(hO:lk s.O r=some (.amap [])):
  RepS C E N ⟨s.T,(r,.rmap [] 0 none)::rm r s.O,s.nx,[]⟩ bs a w:=by
 obtain⟨⟨hF,hW⟩,hnx,hm⟩:=h
 let O2:Nat->Option AObj:=lk ((r,.rmap [] 0 none)::rm r s.O)
 have hO2:∀k o,O2 k=some o->(k=r/\o= .rmap [] 0 none)∨(k≠r/\lk s.O k=some o):=λk o ho=>by
  have ho:lk ((r,.rmap [] 0 none)::rm r s.O) k=some o:=ho;rw[waw] at ho;split at ho
  ·rename_i e;exact .inl ⟨e.symm,(oJ7 ho).symm⟩
  ·rename_i e;exact .inr ⟨λx=>e x.symm,(wc7 r s.O k o ho).2⟩
 have hmem:∀k o,O2 k=some o->o.mut=true->∃o',lk s.O k=some o'/\o'.mut=true:=λk o ho hmu=>by
  rcases hO2 k o ho with⟨rfl,rfl⟩ | ⟨_,h3⟩
  ·exact⟨_,hO,rfl⟩
  ·exact⟨o,h3,hmu⟩
 have hmut:∀b,mutB O2 bs b->mutB (lk s.O) bs b:=λb ⟨k,o,c,h1,h2,h3⟩=>by
  obtain⟨o',g2,g3⟩:=hmem k o h1 h2;exact⟨k,o',c,g2,g3,h3⟩
 have hS:Step w (MB E (lk s.O) bs) bs w (MB E O2 bs) bs:=by
  refine⟨λ_ _ h=>h,λb _ hM=>?_,λ_ _ _=>rfl,lR7 _⟩;rintro(hb | hb)
  ·exact hM (.inl hb)
  ·exact hM (.inr (hmut b hb))
 have hW2:WRep C E O2 bs w:={
  obj:=λk o ho=>by
   rcases hO2 k o ho with⟨rfl,rfl⟩ | ⟨_,h3⟩
   ·obtain⟨b,c,ents,clock,k1,k2,k3,k4⟩:=hW.obj k _ hO;exact⟨b,c,ents,clock,k1,k2,⟨k3.1,λi e p _ hp=>by simp at hp⟩,k4⟩
   ·exact(hW.obj k o h3).step hS λ_ _ _=>rfl
  sep:=λk k' o o' b c c' g1 g2 n1 n2 b1 b2=>by
   obtain⟨o1,q1,q2⟩:=hmem k o g1 n1;obtain⟨o2,r1,r2⟩:=hmem k' o' g2 n2;exact hW.sep k k' o1 o2 b c c' q1 r1 q2 r2 b1 b2
  out:=λb hb=>hW.out b (hmut b hb)
  frz:=λk t' sz' n' f' b c g1 g2=>by
   rcases hO2 k _ g1 with⟨rfl,e⟩ | ⟨_,h3⟩
   ·cases e
   ·exact hS.far b (hW.lt k b c g2) (hW.frz k t' sz' n' f' b c h3 g2)
  high:=λb hb=>by
   rcases hb with hb | hb
   ·exact hW.high b (.inl hb)
   ·exact hW.high b (.inr (hmut b hb))
  lt:=hW.lt
  outlt:=hW.outlt
  keep:=hW.keep
  old:=λb hb=>hW.old b (hmut b hb)
  size:=hW.size
  pre:=hW.pre
  os:=hW.os
  tape:=hW.tape
  output:=hW.output
  laid:=hW.laid
  gle:=hW.gle }
 refine⟨⟨hF.step hS,hW2⟩,λk hk=>⟨?_,(hnx k hk).2⟩,hm⟩
 cases hx:O2 k with
 |none=>exact hx
 |some o=>
  rcases hO2 k o hx with⟨rfl,_⟩ | ⟨_,h3⟩
  ·rw[(hnx k hk).1] at hO;cases hO
  ·rw[(hnx k hk).1] at h3;cases h3
theorem AWP.toR{C:Ctx}{m N:Nat}{c:Code}{Q:Exit->St->Prop}{s:St}(r:Nat)(hO:lk s.O r=some (.amap []))(h:AWP C m N c Q ⟨s.T,(r,.rmap [] 0 none)::rm r s.O,s.nx,[]⟩):AWP C m N c Q s:=
 λE hE bs a w hr=>h E hE bs a w (hr.toR hO)
abbrev XQ:=Exit->List FE->St->Prop
def AWX(C:Ctx)(m N:Nat)(t:TypeId)(sz:Nat)(c:Code)(Q:XQ)(F:List FE)(s:St):Prop:=
 ∀E:Ent,E.m=m->∀bs a w,RXR C E N t sz F s bs a w->c.wp C.P (λe a w=>∃F' s' bs',Q e F' s'/\RXR C E N t sz F' s' bs' a w) a w
section
variable {C:Ctx} {m N:Nat} {t:TypeId} {sz:Nat} {c:Code} {Q:XQ} {F:List FE} {s:St}
theorem AWX.frame{K:Exit->St->Prop}(h:AWP C m N c K s)(k:∀e s',K e s'->Q e F s'):AWX C m N t sz c Q F s:=by
 rintro E hE bs a w ⟨E',B,hR,hr,hF⟩;refine wp_mono (h E' (hR.m.trans hE) bs a w hr) ?_;rintro e a w ⟨s',bs',hq,hr'⟩;exact⟨F,s',bs',k _ _ hq,E',B,hR,hr',hF⟩
theorem AWX.start{K:Exit->St->Prop}(h:AWX C m N t sz c Q [] s)(k:∀e F s',Q e F s'->∃(r j:Nat) (es:List (AV×Value)) (es':List (AV×AV)),lk s'.O r=some (.rmap es j none)/\es'.length=es.length/\F.length=es.length/\
     (∀(i:Nat) p x p',es[i]?=some p->F[i]?=some x->es'[i]?=some p'->p.2=x.1/\p'=(p.1,.view sz x.2.1 x.2.2))/\K e ⟨s'.T,(r,.amap es')::rm r s'.O,s'.nx,[]⟩):AWP C m N c K s:=by
 intro E hE bs a w hr;refine wp_mono (h E hE bs a w (RXR.start t sz hr)) ?_;rintro e a w ⟨F',s',bs',hq,hr'⟩;obtain⟨r,j,es,es',k1,k2,k3,k4,k5⟩:=k _ _ _ hq;exact⟨_,bs',k5,hr'.freeze k1 k2 k3 k4⟩
theorem AWX.focus{F1 F2:List FE}{x:FE}{r j i0:Nat}{es:List (AV×Value)}(hF:F=F1++x::F2)(hO:lk s.O r=some (.rmap es j none))(he:∀p,es[i0]?=some p->p.2=x.1)
  (h:AWX C m N t sz c Q (F1++F2) ⟨s.T,(r,.rmap es i0 (some (.own s.nx x.2.1)))::(s.nx,.row t sz x.2.1 x.2.2 false)::rm r s.O,s.nx+1,[]⟩):AWX C m N t sz c Q F s:=by
 intro E hE bs a w hr;subst hF;obtain⟨bs',hr'⟩:=hr.focus hO he;exact h E hE bs' a w hr'
theorem AWX.unfocusQ(h:AWX C m N t sz c (λe F s=>Q e F s∨∃(F1 F2:List FE) (r q n i0:Nat) (f:Nat->List AV) (es:List (AV×Value)) (hi0:i0<es.length),F=F1++F2/\r≠q/\lk s.O r=some (.rmap es i0 (some (.own q n)))/\lk s.O q=some (.row t sz n f false)/\
     0<n/\(∀i,i<n->flatL (f i)=true)/\∀v:Value,Q e (F1++(v,n,f)::F2) ⟨s.T,(r,.rmap (es.set i0 ((es[i0]).1,v)) i0 none)::rm r (rm q s.O),s.nx,[]⟩) F s):AWX C m N t sz c Q F s:=by
 intro E hE bs a w hr;refine wp_mono (h E hE bs a w hr) ?_;rintro e a w ⟨F',s',bs',hq,hr'⟩
 rcases hq with hq | ⟨F1,F2,r,q,n,i0,f,es,hi0,rfl,h1,h2,h3,h4,h5,h6⟩
 · exact⟨F',s',bs',hq,hr'⟩
 · obtain⟨v,hv⟩:=hr'.unfocus h1 h2 h3 h4 h5 hi0;exact⟨_,_,bs',h6 v,hv⟩
theorem AWX.weak{s':St}{ρ:Nat->Option Nat}(hw:Weak m ρ s s')(h:AWX C m N t sz c Q F s'):AWX C m N t sz c Q F s:=by
 rintro E hE bs a w ⟨E',B,hR,hr,hF⟩;obtain⟨bs',hr',_⟩:=hr.weak (s':=s') (ρ:=ρ) (by rw[hR.m,hE];exact hw);exact h E hE bs' a w ⟨E',B,hR,hr',hF⟩
theorem AWX.weakQ(h:AWX C m N t sz c (λe F s=>∃s2 ρ,Weak m ρ s s2/\Q e F s2) F s):AWX C m N t sz c Q F s:=by
 intro E hE bs a w hr;refine wp_mono (h E hE bs a w hr) ?_;rintro e a w ⟨F',s',bs',⟨s2,ρ,hw,hq⟩,E',B,hR,hr',hF⟩;obtain⟨bs2,hr2,_⟩:=hr'.weak (s':=s2) (ρ:=ρ) (by rw[hR.m,hE];exact hw);exact⟨F',s2,bs2,hq,E',B,hR,hr2,hF⟩
theorem AWX.round{te:TE}(hte:Prg C te)(calls:List (Nat×CSpec))(fuel:Nat)(hc:wch C calls)(x:Code)(Fn Fe Fr:List Nat){ι:Type}(S:ι->St)(P:ι->Prop)(K:Exit->St->Prop)
  (h:was ⟨te,calls,[],m,N,fuel⟩ x Fn Fe Fr S P K s) (hS:∀i,wbr (S i).O True) (hQ:∀i,P i->Q .normal F (S i)) (hK:∀e s',e≠ .normal->K e s'->Q e F s'):AWX C m N t sz x Q F s:=by
 have hG:EnvOK C ⟨te,calls,[],m,N,fuel⟩:=⟨hte.ok,hte.one,hc⟩;refine AWX.weakQ (AWX.frame (wcv hG x _ _ (by rw[wcp];intro p hp;simp at hp) h) λe s' hq=>?_);have key:∀e,e≠ .normal->canQ te m Fe Fr K e s'->∃s2 ρ,Weak m ρ s' s2/\Q e F s2:=λe he h=>by
  obtain⟨ρ,s2,hw,h2⟩:=wu4 h;exact⟨s2,ρ,hw,hK e s2 he h2⟩
 cases e with
 |normal=>
  obtain⟨i',h1,h2⟩:=hq;obtain⟨ρ,hw⟩:=wdq h1 (wb3 (hS i')).1;exact⟨S i',ρ,hw,hQ i' h2⟩
 |exit id=>exact key _ (by simp) hq
 |goto l=>exact key _ (by simp) hq
 |ret=>exact key _ (by simp) hq
 |panic c=>exact key _ (by simp) hq
 |outgrown=>exact key _ (by simp) hq
theorem AWX.loop{ι:Type}(S:ι->St)(Fm:ι->List FE)(I:ι->Prop)(μ:ι->Nat)(i0:ι)(hI:I i0){ρ0:Nat->Option Nat}(hw:Weak m ρ0 s (S i0))(hF:F=Fm i0)
  (round:∀i,I i->AWX C m N t sz c (λe F' s'=>match e with
   |.normal=>∃i',I i'/\μ i'<μ i/\s'=S i'/\F'=Fm i'
   |e=>Q e F' s') (Fm i) (S i)):AWX C m N t sz (.loop c) Q F s:=by
 refine AWX.weak hw ?_;intro E hE bs a w hr;subst hF;refine wp_loop_ghost (λn a w=>∃i bs,I i/\μ i=n/\RXR C E N t sz (Fm i) (S i) bs a w) (μ i0) ⟨i0,bs,hI,rfl,hr⟩ ?_;rintro n a w ⟨i,bs,hi,rfl,hr⟩;refine wp_mono (round i hi E hE bs a w hr) ?_;rintro e a w ⟨F',s',bs',hq,hr'⟩
 cases e with
 |normal=>
  obtain⟨i',hi',hlt,rfl,rfl⟩:=hq;exact⟨μ i',hlt,i',bs',hi',rfl,hr'⟩
 |exit id=>exact⟨F',s',bs',hq,hr'⟩
 |goto l=>exact⟨F',s',bs',hq,hr'⟩
 |ret=>exact⟨F',s',bs',hq,hr'⟩
 |panic c=>exact⟨F',s',bs',hq,hr'⟩
 |outgrown=>exact⟨F',s',bs',hq,hr'⟩
end
def ckL(K:List (List UInt8×Int)):Nat->List ((List UInt8×Int)×Bool)
 |0=>[]
 |k+1=>setA (ckL K k) (atK K k) true
def clnM(K:List ((List UInt8×Int)×Bool))(m:MG):Bool:=(getA K (mk2 m)).getD false
def mnL(K:List ((List UInt8×Int)×Bool))(M:List MG)(k:Nat):List MG:=(lst (atM M) k).filter λm=> !clnM K m
theorem mnL_sn(K:List ((List UInt8×Int)×Bool))(M:List MG)(k:Nat):mnL K M (k+1)=bif clnM K (atM M k) then mnL K M k else mnL K M k++[atM M k]:=by
 unfold mnL;rw[whz,List.filter_append]
 cases h:clnM K (atM M k) with
 |true=>simp[h]
 |false=>simp[h]
theorem mnL_len(K:List ((List UInt8×Int)×Bool))(M:List MG)(k:Nat):(mnL K M k).length<=k:=by
 have:=List.length_filter_le (λm=> !clnM K m) (lst (atM M) k);unfold mnL;simp[lst] at this ⊢;exact this
theorem wqg(K:List (List UInt8×Int)):∀k,((ckL K k).map Prod.fst).Nodup
 |0=>.nil
 |k+1=>whi (wqg K k) _ _
theorem wu2(K:List (List UInt8×Int))(p:List UInt8×Int):∀k,(getA (ckL K k) p).getD false=decide (∃i,i<k/\atK K i=p)
 |0=>by simp[ckL,getA]
 |k+1=>by
  have ih:=wu2 K p k;rw[ckL,wgd]
  by_cases h:atK K k=p
  ·rw[decide_eq_true h,cond_true,decide_eq_true ⟨k,by omega,h⟩];rfl
  ·rw[decide_eq_false h,cond_false,ih];congr 1;refine propext ⟨λ⟨i,hi,e⟩=>⟨i,by omega,e⟩,λ⟨i,hi,e⟩=>⟨i,?_,e⟩⟩
   rcases Nat.lt_or_ge i k with q | q
   ·exact q
   ·have:i=k:=by omega
    subst this;exact absurd e h
theorem wkv{M:List MG}{x:List UInt8×Int}:∀ {k},x∈clnP M k->1<numC (atM M) x M.length
 |0,h=>by simp[clnP] at h
 |k+1,h=>by
  rw[clnP] at h
  by_cases q:1<numC (atM M) (mk2 (atM M k)) M.length
  ·cases q2:decide (1<numC (atM M) (mk2 (atM M k)) M.length) && (decide ((clnP M k).length=0) || !smK (atK (clnP M k) ((clnP M k).length - 1)) (mk2 (atM M k))) with
   |true=>
    rw[q2,cond_true] at h
    rcases List.mem_append.1 h with h | h
    ·exact wkv h
    ·rw[List.mem_singleton.1 h];exact q
   |false=>rw[q2,cond_false] at h;exact wkv h
  ·rw[decide_eq_false q,Bool.false_and,cond_false] at h;exact wkv h
theorem wuw{M:List MG}{x:List UInt8×Int}{k:Nat}(h:x∈clnP M k):∀d,x∈clnP M (k+d)
 |0=>h
 |d+1=>by
  have ih:=wuw h d;rw[show k+(d+1)=k+d+1 from rfl,clnP]
  cases decide (1<numC (atM M) (mk2 (atM M (k+d))) M.length) && (decide ((clnP M (k+d)).length=0) || !smK (atK (clnP M (k+d)) ((clnP M (k+d)).length - 1)) (mk2 (atM M (k+d)))) with
  |true=>exact List.mem_append_left _ ih
  |false=>exact ih
theorem wux{M:List MG}{x:List UInt8×Int}:x∈clnP M M.length↔1<numC (atM M) x M.length:=by
 refine⟨wkv,λh=>?_⟩;obtain⟨i,j,hij,hj,e1,e2⟩:=(whs _ _ _).1 h;have h':=h;rw[← e2] at h';obtain⟨h1,h2⟩:=w3b (k:=j) h';have hm:x∈clnP M (j+1):=by
  rw[← e2, ← h2];exact wu9 (by omega)
 have:=wuw hm (M.length - (j+1))
 rwa [show j+1+(M.length - (j+1))=M.length by omega] at this
theorem w0y(g:Nat->MG)(n:Nat):mnL (ckL (wb7 g n) (wb7 g n).length) (mrgL g n noM 0) (mrgL g n noM 0).length=wae g n:=by
 unfold mnL wae;rw[wdf];refine List.filter_congr λm _=>?_;unfold clnM;rw[wu2];congr 2;refine propext ⟨λ⟨i,hi,e⟩=>?_,λh=>?_⟩
 ·have:=wu9 hi;rw[e] at this;exact wux.1 this
 ·have:=wux.2 h;obtain⟨i,hi,e⟩:=List.getElem_of_mem this;refine⟨i,hi,?_⟩;unfold atK;rw[List.getD_eq_getElem?_getD];have hi':i<(wb7 g n).length:=hi;rw[List.getElem?_eq_getElem hi'];exact e
theorem wxc{B:List (SL×List MG)}{s:SL}{m:MG}(h:s ∉ B.map Prod.fst):putB B s m=B++[(s,[m])]:=by
 induction B with
 |nil=>rfl
 |cons x B ih=>
  rw[List.map_cons,List.mem_cons,not_or] at h;rw[putB,decide_eq_false (λq=>h.1 q.symm),cond_false,ih h.2];rfl
theorem putB_at{B:List (SL×List MG)}(hn:(B.map Prod.fst).Nodup){j:Nat}(hj:j<B.length){s:SL}{m:MG}(h:(B[j]).1=s):putB B s m=B.set j (s,(B[j]).2++[m]):=by
 induction B generalizing j with
 |nil=>exact absurd hj (nZ7 j)
 |cons x B ih=>
  rw[List.map_cons,List.nodup_cons] at hn
  cases j with
  |zero=>
   have h:x.1=s:=h;rw[putB,decide_eq_true h,cond_true, ← h];rfl
  |succ j=>
   have hj':j<B.length:=by simpa using hj
   have h':(B[j]).1=s:=h;have hne:¬ x.1=s:=λq=>hn.1 (by rw[q, ← h'];exact List.mem_map_of_mem (List.getElem_mem hj'));rw[putB,decide_eq_false hne,cond_false,ih hn.2 hj' h'];rfl
theorem wu5{l:List MG}{x:SL×List MG}(h:x∈wai l):0<x.2.length/\x.2.length<=l.length:=by
 have e:=wu7 h;have hk:x.1∈(wai l).map Prod.fst:=List.mem_map_of_mem h;obtain⟨m,hm,hs⟩:=(wpj x.1 l).1 hk;rw[e];refine⟨List.length_pos_of_mem (List.mem_filter.2 ⟨hm,decide_eq_true hs⟩),List.length_filter_le _ _⟩
def entG{κ α:Type}(kv:κ->AV)(vv:α->AV)(L:List (κ×α)):List (AV×AV):=L.map λx=>(kv x.1,vv x.2)
def keyD(p:List UInt8×Int):AV:=.agg [.str p.1,.q p.2]
def keyS(s:SL):AV:=.agg [.str s.o,.str s.p,.q s.per]
def vwM(l:List MG):AV:=.view 15 l.length (waa (atM l))
def esB(B:List (SL×List MG))(vs:List Value):List (AV×Value):=(B.zip vs).map λp=>(keyS p.1.1,p.2)
def fmB(B:List (SL×List MG))(vs:List Value):List FE:=(B.zip vs).map λp=>(p.2,p.1.2.length,waa (atM p.1.2))
def S_oa(g:Nat->MG)(n:Nat)(K:List (List UInt8×Int))(k:Nat):St:=⟨[(0,.view 15 n (waa g)),(3,.ptr 0 0),(4,.map 1),(15,.view 2 K.length (wcc (atK K))),(16,.q K.length),(17,.q k),(2,.ptr 2 0)],
 [(0,.cells [.map 3,.nil] 72),(1,.amap (entG keyD .bool (ckL K k))),(2,.cells [.nilmap,.nil] 72),(3,.amap [])],4,[]⟩
def L_oa(g:Nat->MG)(n:Nat)(K:List (List UInt8×Int)):wan:=λst Q=>canonIs te 0 [0,3,4,15,16,17,2] st (S_oa g n K 0)/\K.length<=100000/\
 Q (.exit 0) ⟨[(0,.view 15 n (waa g)),(3,.ptr 0 0),(4,.map 1),(2,.ptr 2 0)],[(0,.cells [.map 3,.nil] 72),(1,.amap (entG keyD .bool (ckL K K.length))),(2,.cells [.nilmap,.nil] 72),(3,.amap [])],4,[]⟩
def S_ob(es:List (AV×Value))(j:Nat)(K:List ((List UInt8×Int)×Bool))(M:List MG)(k:Nat):St:=⟨[(3,.ptr 0 0),(4,.map 1),(25,.own 2 M.length),(26,.int .i64 M.length),(27,.int .i64 k),(2,.ptr 3 0)],
 [(0,.cells [.map 4,.nil] 72),(1,.amap (entG keyD .bool K)),(2,.row 47 15 M.length (waa (atM M)) false),(3,.cells [.nilmap,.nil] 72),(4,.rmap es j none)],5,[]⟩
def S_oc(es:List (AV×Value))(j:Nat)(L:List MG)(K:List ((List UInt8×Int)×Bool))(M:List MG)(k:Nat):St:=⟨[(3,.ptr 0 0),(4,.map 1),(25,.own 2 M.length),(26,.int .i64 M.length),(27,.int .i64 k),(2,.ptr 3 0)],
 [(0,.cells [.map 4,.nil] 72),(1,.amap (entG keyD .bool K)),(2,.row 47 15 M.length (waa (atM M)) false),(3,.cells [.nilmap,.nil] 72),(4,.rmap es j (some (.own 5 L.length))),(5,.row 47 15 L.length (waa (atM L)) false)],6,[]⟩
structure OC where
 es:List (AV×Value)
 j:Nat
 L:List MG
 k:Nat
def S_oi(K:List ((List UInt8×Int)×Bool))(M:List MG)(i:OC):St:=S_oc i.es i.j i.L K M i.k
def Q_ob(es:List (AV×Value))(j:Nat)(e:Exit)(s:St):Prop:=e= .exit 2/\s=⟨[(3,.ptr 0 0),(2,.ptr 1 0)],[(0,.cells [.map 2,.nil] 72),(1,.cells [.nilmap,.nil] 72),(2,.rmap es j none)],3,[]⟩
def L_ob(K:List ((List UInt8×Int)×Bool))(M:List MG):wan:=λst Q=>canonIs te 0 [3,4,25,26,27,2] st ⟨[(3,.ptr 0 0),(4,.map 1),(25,.own 2 M.length),(26,.q M.length),(27,.q 0),(2,.ptr 3 0)],
  [(0,.cells [.map 4,.nil] 72),(1,.amap (entG keyD .bool K)),(2,.row 47 15 M.length (waa (atM M)) false),(3,.cells [.nilmap,.nil] 72),(4,.amap [])],5,[]⟩/\M.length<=100000/\(K.map Prod.fst).Nodup/\
 Q (.exit 2) ⟨[(3,.ptr 0 0),(2,.ptr 1 0)],[(2,.amap (entG keyS vwM (wai (mnL K M M.length)))),(0,.cells [.map 2,.nil] 72),(1,.cells [.nilmap,.nil] 72)],3,[]⟩
structure OI where
 c:Nat
 h:Nat->SL
 c0:Nat
 left:List Nat
def S_od(B:List (SL×List MG))(i:OI):St:=⟨[(3,.ptr 0 0),(54,.ptr 1 0),(2,.ptr 2 0)],
 [(0,.cells [.map 3,.own 4 i.c] 72),(1,.miter 3 B.length (69::i.c0::i.left)),(2,.cells [.nilmap,.nil] 72),(3,.amap (entG keyS vwM B)),(4,.row 78 3 i.c (wap i.h) false)],5,[]⟩
def L_od(B:List (SL×List MG)):wan:=λst Q=>canonIs te 0 [3,54,2] (ownNilP 3 1 78 3 st) (S_od B ⟨0,λ_=>default,B.length,List.range B.length⟩)/\B.length<=100000/\(∀x∈B,x.2.length<=100000)/\
 ∀(E:List (SL×List MG)) (h:Nat->SL) (c:Nat),E.Perm B->lst h c=(E.filter λx=>hasV x.2).map Prod.fst->Q (.exit 4) ⟨[(3,.ptr 0 0),(2,.ptr 1 0)],[(0,.cells [.map 2,.own 3 c] 72),(1,.cells [.nilmap,.nil] 72),(2,.amap (entG keyS vwM B)),(3,.row 78 3 c (wap h) false)],4,[]⟩
end Go.Eng
namespace Go.Eng
open Go.Proofs Go.RowKit Go.Sort
def entF(es:List (AV×AV))(i:Nat):List AV:=[(es.getD i (.any,.any)).1,(es.getD i (.any,.any)).2]
theorem entsV_F(es:List (AV×AV)):wfp es.length (entF es)=es:=by
 apply List.ext_getElem?;intro i;unfold wfp;rw[List.getElem?_map]
 rcases Nat.lt_or_ge i es.length with h | h
 ·rw[List.getElem?_range h,Option.map_some,List.getElem?_eq_getElem h];simp[entF,h]
 ·rw[List.getElem?_eq_none (by simpa using h),List.getElem?_eq_none h];rfl
end Go.Eng
namespace Go.Eng
def frzM(r:Nat)(es:List (AV×AV)):AV->AV
 |.map r'=>match Nat.beq r' r with
  |true=>.vmap es.length (entF es)
  |false=>.map r'
 |u=>u
def frzMA(r:Nat)(es:List (AV×AV)):AV->AV
 |.agg cs=>.agg (cs.map (frzM r es))
 |u=>frzM r es u
section
variable {C:Ctx} {E:Ent} {O O':Nat->Option AObj} {bs:Nat->Option Hd} {w:World} {r:Nat} {es:List (AV×AV)}
theorem V.frzM(hW:WRep C E O bs w)(hr0:O r=some (.amap es))(hes:∀p∈es,nref p.1=true/\nref p.2=true)(hO:∀k o,O' k=some o->k≠r/\O k=some o)(hS:Step w (MB E O bs) bs w (MB E O' bs) bs){v:Value}{u:AV}(h:V w (MB E O bs) bs v u):
  V w (MB E O' bs) bs v (Eng.frzM r es u):=by
 cases u with
 |map r'=>
  show V w (MB E O' bs) bs v (match Nat.beq r' r with | true=>AV.vmap es.length (entF es) | false=>AV.map r')
  split
  ·rename_i hb;have e:=Nat.eq_of_beq_eq_true hb;subst e
   cases h with | map hbr=>
   rename_i b' c';obtain⟨b,c,ents,clock,h1,h2,h3,h4⟩:=hW.obj r' _ hr0;rw[h1] at hbr;injection hbr with hbr;injection hbr with e1 e2;subst e1;have hmb:mutB O bs b:=⟨r',_,c,hr0,rfl,h1⟩;refine .vmap (λhM=>?_) (hW.lt r' b c h1) h2 h3.1 (λi e u he hu=>?_) (λi e u he hu=>?_)
   ·rcases hM with hM | ⟨k,o,c2,g1,g2,g3⟩
    ·exact hW.out b hmb hM
    ·obtain⟨q1,q2⟩:=hO k o g1;exact q1 (hW.sep k r' o _ b c2 c q2 hr0 g2 rfl g3 h1)
   ·have hi:i<es.length:=by rw[← h3.1];exact(Array.getElem?_eq_some_iff.1 he).1
    have hp:es[i]?=some es[i]:=List.getElem?_eq_getElem hi;obtain⟨a1,_⟩:=h3.2 i e _ he hp;have:u=(es[i]).1:=by
     simp[entF,hi] at hu;exact hu.symm
    rw[this];exact a1.free hS.far hS.heap hS.size nob (hes _ (List.getElem_mem hi)).1
   ·have hi:i<es.length:=by rw[← h3.1];exact(Array.getElem?_eq_some_iff.1 he).1
    have hp:es[i]?=some es[i]:=List.getElem?_eq_getElem hi;obtain⟨_,a2⟩:=h3.2 i e _ he hp;have:u=(es[i]).2:=by
     simp[entF,hi] at hu;exact hu.symm
    rw[this];exact a2.free hS.far hS.heap hS.size nob (hes _ (List.getElem_mem hi)).2
  ·exact h.step hS
 |_=>exact h.step hS
theorem V.frzMA(hW:WRep C E O bs w)(hr0:O r=some (.amap es))(hes:∀p∈es,nref p.1=true/\nref p.2=true)(hO:∀k o,O' k=some o->k≠r/\O k=some o)(hS:Step w (MB E O bs) bs w (MB E O' bs) bs){v:Value}{u:AV}(h:V w (MB E O bs) bs v u):
  V w (MB E O' bs) bs v (Eng.frzMA r es u):=by
 cases u with
 |agg cs=>
  cases h with | agg hl h1 hv=>
  refine .agg (by simp[hl]) h1 λj v u hj hu=>?_;rw[List.getElem?_map] at hu;obtain⟨u0,h0,rfl⟩:=Option.map_eq_some_iff.1 hu;exact V.frzM hW hr0 hes hO hS (hv j v u0 hj h0)
 |_=>exact V.frzM hW hr0 hes hO hS h
end
def frzMO(r:Nat)(R:AV->List (Nat×AObj)->Prop)(u:AV)(O:List (Nat×AObj)):Prop:=match lk O r with
 |some (.amap es)=>(∀p∈es,nref p.1=true/\nref p.2=true)/\R (frzMA r es u) (rm r O)
 |_=>R u O
theorem waq.frzMO{C:Ctx}{f:FuncId}{args:List AV}{objs:List AObj}{R:AV->List (Nat×AObj)->Prop}(r:Nat)(h:waq C f args objs (Eng.frzMO r R)):waq C f args objs R:=by
 refine⟨h.1,λE bs w cargs h1 h2 h3 h4 h5 h6 h7=>?_⟩;refine(h.2 E bs w cargs h1 h2 h3 h4 h5 h6 h7).mono ?_;rintro e w' ⟨v,u,O',bs',r1,hR0,r3,r4,r5⟩;unfold Eng.frzMO at hR0;split at hR0
 ·rename_i es hO;obtain⟨hg,hR⟩:=hR0;have hk:∀k o,lk (rm r O') k=some o->k≠r/\lk O' k=some o:=λk o ho=>by
   obtain⟨q1,q2⟩:=wc7 r O' k o ho;exact⟨λe=>q1 e.symm,q2⟩
  obtain⟨hS2,hW2⟩:=r3.less (O':=lk (rm r O')) λk o ho=>(hk k o ho).2;refine⟨v,_,rm r O',bs',r1,hR,hW2,V.frzMA r3 hO hg hk hS2 r4,λk hk=>⟨?_,(r5 k hk).2⟩⟩
  cases hx:lk (rm r O') k with
  |none=>rfl
  |some o=>
   have:=(wc7 r O' k o hx).2;rw[(r5 k hk).1] at this;cases this
 ·exact⟨v,u,O',bs',r1,hR0,r3,r4,r5⟩
def wlt:Spec
 |[.view 15 n f],[]=>some (.agg [.vmap (wai (wae (mgOf f) n)).length (entF (entG keyS vwM (wai (wae (mgOf f) n)))),.view 3 (visL (wae (mgOf f) n)).length (wap (atS (visL (wae (mgOf f) n))))],[],n<=100000/\f=waa (mgOf f)/\∀i,i<n->(mgOf f i).Sm)
 |_,_=>none
structure BkOK (R:List MG):Prop where
 right:RightL R
 len:R.length<=100000
 sm:∀m∈R,m.Sm
def wln(R:List MG):Spec
 |[.agg [.vmap nb fb,.view 3 _ _],.agg [.str o,.str p,.int .i64 per]],[]=>
   some (.tuple [.agg [.str (resB R ⟨o,p,per⟩).1.o,.str (resB R ⟨o,p,per⟩).1.p,.q (resB R ⟨o,p,per⟩).1.per,.q (resB R ⟨o,p,per⟩).1.day,.q (resB R ⟨o,p,per⟩).1.st,.q (resB R ⟨o,p,per⟩).1.pr,.str (resB R ⟨o,p,per⟩).1.rep],.q (resB R ⟨o,p,per⟩).2],[],
    nb=(wai R).length/\fb=entF (entG keyS vwM (wai R))/\BkOK R/\(⟨o,p,per⟩:SL)∈visL R)
 |_,_=>none
def uRow(g:Nat->Int)(i:Nat):List AV:=[.int .u32 (g i)]
def uOf(f:Nat->List AV)(i:Nat):Int:=match f i with
 |[.int .u32 n]=>n
 |_=>0
def lowI(g:Nat->Int):Nat->Nat
 |0=>0
 |k+1=>bif decide (g k=0) then lowI g k else k+1
def wl7:Spec
 |[.own 0 n],[.row t 1 m f fr]=>some (.own 0 (lowI (uOf f) n),[(0,.row 124 1 n f false)],t=124/\fr=false/\n=m/\n<=1000/\∀i,i<n->f i=uRow (uOf f) i)
 |_,_=>none
def wg1(g:Nat->Int)(n k:Nat):St:=⟨[(0,.own 0 k)],[(0,.row 124 1 n (uRow g) false)],1,[]⟩
def wnt(g:Nat->Int)(n:Nat):wan:=λst Q=>canonIs te 1 [0] st (wg1 g n n)/\n<=1000/\Q (.exit 0) (wg1 g n (lowI g n))
def lmF(v:Int)(i:Nat):Int:=if i=0 then v % 4294967296 else if i=1 then v / 4294967296 else 0
def lmN(v:Int):Nat:=lowI (lmF v) 2
def we3:Spec
 |[.own 0 n],[.row t 1 m f fr]=>some (.view 1 (lowI (uOf f) n) (uRow (uOf f)),[(0,.row 124 1 n f false)],t=124/\fr=false/\n=m/\n<=1000/\∀i,i<n->f i=uRow (uOf f) i)
 |_,_=>none
def we7:Spec
 |[.int .u64 v],[]=>some (.view 1 (lmN v) (uRow (lmF v)),[],0<=v/\v<18446744073709551616)
 |_,_=>none
def we1:Spec
 |[.int .i64 v],[]=>some (.view 1 (lmN v) (uRow (lmF v)),[],0<=v/\v<9223372036854775808)
 |_,_=>none
def wdy:Spec
 |[.int .i64 v],[]=>some (.agg [.bool false,.view 1 (lmN v) (uRow (lmF v)),.nil],[],0<=v/\v<9223372036854775808)
 |_,_=>none
def bsF(g:Nat->SL)(s:SL)(n:Nat):Nat:=fstB (λi=> !decide (ordS (g i) s<0)) n
def S_bs:Spec
 |[.view 3 n f,.agg [.str o,.str p,.int .i64 per],.func 42 []],[]=>some (.tuple [.q (bsF (slOf f) ⟨o,p,per⟩ n),.bool (decide (bsF (slOf f) ⟨o,p,per⟩ n<n) && decide (ordS (slOf f (bsF (slOf f) ⟨o,p,per⟩ n)) ⟨o,p,per⟩=0))],[],
   n<=1000000/\f=wap (slOf f)/\∀i j,i<j->j<n->ordS (slOf f i) (slOf f j)<0)
 |_,_=>none
structure BI where
 a:Nat
 b:Nat
def wm0(g:Nat->SL)(s:SL)(n:Nat)(i:BI):St:=⟨[(0,.view 3 n (wap g)),(2,.func 42 []),(4,.ptr 0 0),(8,.q n),(9,.q i.a),(10,.q i.b)],[(0,.cells [.str s.o,.str s.p,.q s.per] 78)],1,[]⟩
def L_bs(g:Nat->SL)(s:SL)(n:Nat):wan:=λst Q=>canonIs te 0 [0,2,4,8,9,10] st (wm0 g s n ⟨0,n⟩)/\n<=1000000/\(∀i j,i<j->j<n->ordS (g i) (g j)<0)/\
 Q (.exit 0) ⟨[(0,.view 3 n (wap g)),(2,.func 42 []),(4,.ptr 0 0),(8,.q n),(9,.q (bsF g s n))],[(0,.cells [.str s.o,.str s.p,.q s.per] 78)],1,[]⟩
end Go.Eng
